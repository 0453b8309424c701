/-
PLAIN LAW: what the walks compute answers as the statement says (no program in sight; Ev: from some number of rounds on).
-/
import Derived.Test.YtibhfahbabgbaaaTX24
namespace Go.Proofs.Ytibhfahbabgbaaa.P
open Go Go.RowKit Go.Proofs.Ytibhfahbabgbaaa.A Go.Proofs.YtibhfahbabgbaaaW.PrintWords Go.Proofs.YtibhfahbabgbaaaW.PrintLast Go.Proofs.YtibhfahbabgbaaaW.PrintMore
set_option linter.unusedSimpArgs false
set_option linter.unusedVariables false
def Ev {α : Type} (f : Nat → Option α) (r : α) : Prop := ∃ k, ∀ j, k ≤ j → f j = some r

theorem Ev.some {α : Type} {r : α} : Ev (fun _ => Option.some r) r := ⟨0, fun _ _ => rfl⟩
theorem Ev.bind {α β : Type} {f : Nat → Option α} {g : Nat → α → Option β} {a : α} {b : β} (h : Ev f a) (h2 : Ev (fun k => g k a) b) : Ev (fun k => (f k).bind (g k)) b := by
 obtain ⟨k, hk⟩ := h; obtain ⟨m, hm⟩ := h2; exact ⟨max k m, fun j hj => by show (f j).bind (g j) = _; rw [hk j (by omega)]; exact hm j (by omega)⟩
theorem Ev.succ {α : Type} {f : Nat → Option α} {r : α} (h : Ev (fun k => f (k + 1)) r) : Ev f r := by
 obtain ⟨k, hk⟩ := h; exact ⟨k + 1, fun j hj => by obtain ⟨m, rfl⟩ : ∃ m, j = m + 1 := ⟨j - 1, by omega⟩; exact hk m (by omega)⟩
theorem Ev.ex {α : Type} {f : Nat → Option α} {r : α} (h : Ev f r) : ∃ k, f k = Option.some r := let ⟨k, hk⟩ := h; ⟨k, hk k (Nat.le_refl _)⟩
theorem Ev.of_mono {α : Type} {f : Nat → Option α} {r : α} (hm : ∀ k, LeO (f k) (f (k + 1))) {k : Nat} (h : f k = Option.some r) : Ev f r := by
  refine ⟨k, fun j hj => ?_⟩
  induction j with
  | zero => obtain rfl : k = 0 := by omega
            exact h
  | succ j ih =>
    by_cases e : k = j + 1
    · subst e; exact h
    · exact hm j r (ih (by omega))
theorem up {i : Nat} (h : i < 4611686018427387904) : wrap64 ((i : Int) + 1) = ((i + 1 : Nat) : Int) := by
 unfold wrap64; omega
theorem w64 {n : Int} (h : -9223372036854775808 ≤ n ∧ n ≤ 9223372036854775807) : wrap64 n = n := by unfold wrap64; omega
theorem rd_nat (l : List Int) (i : Nat) : rd l (i : Int) = l.getD i 0 := by unfold rd; simp
theorem drop_rd {l : List Int} {i : Nat} (h : i < l.length) : l.drop i = rd l (i : Int) :: l.drop (i + 1) := by
 rw [rd_nat, List.drop_eq_getElem_cons h]
 simp [List.getD_eq_getElem?_getD, h]
theorem drop_getD {α : Type} {l : List α} {i : Nat} (z : α) (h : i < l.length) : l.drop i = l.getD i z :: l.drop (i + 1) := by
 rw [List.drop_eq_getElem_cons h]
 simp [List.getD_eq_getElem?_getD, h]

theorem mx_eq (a b : Int) : mx a b = max a b := by unfold mx; split <;> omega
theorem within_eq (a b c : Int) : L_within.f a b c = some (decide (b ≤ a ∧ a ≤ c)) := by
 unfold L_within.f
 by_cases h : b ≤ a <;> simp [h]
theorem Within_eq (a b c : Int) : Bs_Within.f a b c = some (decide (b ≤ a ∧ a ≤ c)) := by
 unfold Bs_Within.f
 by_cases h : b ≤ a <;> simp [h]
theorem unless_eq (b : Bool) (e : Int) : L_unless.f b e = some (if b = true then 0 else e) := by
 unfold L_unless.f
 cases b <;> simp
theorem Size_eq (a : Int) : Bs_Size.f a = some (mx a (wrap64 (-a))) := rfl

def fnz : List Int → Int
 | [] => 0
 | x :: r => if x = 0 then fnz r else x

theorem first_l0 (l : List Int) (hl : l.length < 4611686018427387904) : ∀ (n i : Nat), i + n = l.length → Ev (fun k => L_first.l0 k l (l.length : Int) (i : Int)) (fnz (l.drop i))
 | 0, i, h => by
  refine Ev.succ (f := fun k => L_first.l0 k l (l.length : Int) (i : Int)) ?_; have h1 : ¬ (i : Int) < (l.length : Int) := by omega
  simp only [L_first.l0, h1, if_false]; rw [show l.drop i = [] from List.drop_eq_nil_of_le (by omega)]; exact Ev.some
 | n + 1, i, h => by
  refine Ev.succ (f := fun k => L_first.l0 k l (l.length : Int) (i : Int)) ?_; have h1 : (i : Int) < (l.length : Int) := by omega
  have h2 : (0 : Int) ≤ (i : Int) := by omega
  simp only [L_first.l0, h1, h2, if_true, up (show i < 4611686018427387904 by omega)]; rw [drop_rd (show i < l.length by omega)]; unfold fnz
  by_cases e : rd l (i : Int) = 0
  ·simp only [e, if_true]; exact first_l0 l hl n (i + 1) (by omega)
  ·simp only [e, if_false]; exact Ev.some
theorem first_ev (l : List Int) (hl : l.length < 4611686018427387904) : Ev (fun k => L_first.f k l) (fnz l) := first_l0 l hl l.length 0 (by omega)

theorem gcd_lt {x y M : Nat} (hx : x < M) (hy : y < M) : Nat.gcd x y < M := by
 by_cases h : y = 0
 ·subst h; simpa using hx
 ·exact Nat.lt_of_le_of_lt (Nat.gcd_le_right x (by omega)) hy
theorem size_abs {x : Int} (h : -9223372036854775807 ≤ x ∧ x ≤ 9223372036854775807) : mx x (wrap64 (-x)) = (x.natAbs : Int) := by
 rw [w64 (n := -x) (by omega), mx_eq]; omega
theorem gcd_step (x y : Int) : Int.gcd y (x.tmod y) = Int.gcd x y := by
 show Nat.gcd y.natAbs (x.tmod y).natAbs = Nat.gcd x.natAbs y.natAbs
 rw [Int.natAbs_tmod, Nat.gcd_comm, ← Nat.gcd_rec, Nat.gcd_comm]
theorem tmod_in {x y : Int} (h0 : y ≠ 0) : (x.tmod y).natAbs < y.natAbs := by
 rw [Int.natAbs_tmod]; exact Nat.mod_lt _ (by omega)
theorem Gcd_l0 : ∀ (m : Nat) (x y : Int), y.natAbs ≤ m → x.natAbs < 9223372036854775808 → y.natAbs < 9223372036854775808 → Ev (fun k => Bs_Gcd.l0 k x y) (Int.gcd x y : Int)
 | 0, x, y, h, hx, _ => by
  refine Ev.succ (f := fun k => Bs_Gcd.l0 k x y) ?_; obtain rfl : y = 0 := by omega
  simp only [Bs_Gcd.l0, if_true, Size_eq, Option.bind_some, size_abs (x := x) (by omega), Int.gcd_zero_right]; exact Ev.some
 | m + 1, x, y, h, hx, hy => by
  refine Ev.succ (f := fun k => Bs_Gcd.l0 k x y) ?_
  by_cases h0 : y = 0
  ·subst h0; simp only [Bs_Gcd.l0, if_true, Size_eq, Option.bind_some, size_abs (x := x) (by omega), Int.gcd_zero_right]; exact Ev.some
  ·simp only [Bs_Gcd.l0, h0, if_false]; have ht := tmod_in (x := x) h0; rw [← gcd_step x y]; exact Gcd_l0 m y (x.tmod y) (by omega) hy (by omega)
theorem Gcd_ev {x y : Int} (hx : x.natAbs < 9223372036854775808) (hy : y.natAbs < 9223372036854775808) : Ev (fun k => Bs_Gcd.f k x y) (Int.gcd x y : Int) := Gcd_l0 _ x y (Nat.le_refl _) hx hy
theorem div_l1 : ∀ (m : Nat) (x y : Int), y.natAbs ≤ m → x.natAbs < 9223372036854775808 → y.natAbs < 9223372036854775808 →
  ∃ d : Int, d.natAbs = Int.gcd x y ∧ ∀ (l : List Int) (len i r : Int), Ev (fun k => L_divisor.l0 k d l len (wrap64 (i + 1))) r → Ev (fun k => L_divisor.l1 k x y l len i) r
 | 0, x, y, h, hx, _ => by
  obtain rfl : y = 0 := by omega
  refine ⟨x, by simp, fun l len i r h => ?_⟩; refine Ev.succ (f := fun k => L_divisor.l1 k x 0 l len i) ?_; simp only [L_divisor.l1, if_true]; exact h
 | m + 1, x, y, h, hx, hy => by
  by_cases h0 : y = 0
  ·subst h0; refine ⟨x, by simp, fun l len i r h => ?_⟩; refine Ev.succ (f := fun k => L_divisor.l1 k x 0 l len i) ?_; simp only [L_divisor.l1, if_true]; exact h
  ·have ht := tmod_in (x := x) h0; obtain ⟨d, hd, hE⟩ := div_l1 m y (x.tmod y) (by omega) hy (by omega); refine ⟨d, by rw [hd]; exact gcd_step x y, fun l len i r h => ?_⟩; refine Ev.succ (f := fun k => L_divisor.l1 k x y l len i) ?_; simp only [L_divisor.l1, h0, if_false]; exact hE l len i r h
def gcds : Nat → List Int → Nat
 | g, [] => g
 | g, x :: r => gcds (Nat.gcd g x.natAbs) r
theorem divisor_l0 (l : List Int) (hl : l.length < 4611686018427387904) (hb : ∀ x ∈ l, x.natAbs < 9223372036854775808) : ∀ (n i : Nat) (g : Int), i + n = l.length → g.natAbs < 9223372036854775808 →
  Ev (fun k => L_divisor.l0 k g l (l.length : Int) (i : Int)) (gcds g.natAbs (l.drop i) : Int)
 | 0, i, g, h, hg => by
  refine Ev.succ (f := fun k => L_divisor.l0 k g l (l.length : Int) (i : Int)) ?_; simp only [L_divisor.l0, show ¬ (i : Int) < (l.length : Int) by omega, if_false, size_abs (x := g) (by omega)]; rw [show l.drop i = [] from List.drop_eq_nil_of_le (by omega)]; exact Ev.some
 | n + 1, i, g, h, hg => by
  refine Ev.succ (f := fun k => L_divisor.l0 k g l (l.length : Int) (i : Int)) ?_; simp only [L_divisor.l0, show (i : Int) < (l.length : Int) by omega, show (0 : Int) ≤ (i : Int) by omega, if_true]; have hm : rd l (i : Int) ∈ l := by
   have : rd l (i : Int) ∈ l.drop i := by rw [drop_rd (show i < l.length by omega)]; exact List.mem_cons_self
   exact List.mem_of_mem_drop this
  have hx := hb _ hm; rw [drop_rd (show i < l.length by omega)]; obtain ⟨d, hd, hE⟩ := div_l1 _ g (rd l (i : Int)) (Nat.le_refl _) hg hx; refine hE _ _ _ _ ?_; rw [up (show i < 4611686018427387904 by omega)]; have hd' : d.natAbs < 9223372036854775808 := by rw [hd]; exact gcd_lt hg hx
  have := divisor_l0 l hl hb n (i + 1) d (by omega) hd'; rw [hd] at this; exact this
theorem divisor_ev (l : List Int) (hl : l.length < 4611686018427387904) (hb : ∀ x ∈ l, x.natAbs < 9223372036854775808) : Ev (fun k => L_divisor.f k l) (gcds 0 l : Int) :=
 divisor_l0 l hl hb l.length 0 0 (by omega) (by simp)
theorem rd85_drop {l : List S85} {i : Nat} (h : i < l.length) : l.drop i = rd_T85 l (i : Int) :: l.drop (i + 1) := by
 rw [drop_getD z85 h]; rfl
theorem rd85_mem {l : List S85} {i : Nat} (h : i < l.length) : rd_T85 l (i : Int) ∈ l := by
 have : rd_T85 l (i : Int) ∈ l.drop i := by rw [rd85_drop h]; exact List.mem_cons_self
 exact List.mem_of_mem_drop this
theorem rd85_getElem {l : List S85} {i : Nat} (h : i < l.length) : rd_T85 l (i : Int) = l[i] := by
 unfold rd_T85
 simp [List.getD_eq_getElem?_getD, h]
def okR (t : S85) : Prop := (0 ≤ t.f0 ∧ t.f0 ≤ 2000) ∧ (0 ≤ t.f1 ∧ t.f1 ≤ 2000) ∧ (0 ≤ t.f2 ∧ t.f2 ≤ 1000)
instance (t : S85) : Decidable (okR t) := by unfold okR; infer_instance
def ckF (l : List S85) : Nat → Nat → Int × Int
 | 0, _ => (0, 0)
 | n + 1, i => if okR (rd_T85 l (i : Int)) then ckF l n (i + 1) else ((i : Int), 2)
def ckR (l : List S85) : Int × Int := if l.length = 0 then (0, 10) else if 8 < l.length then (0, 8) else ckF l l.length 0
theorem ckR1_eq (x : Int) : L_CheckReadings_1.f x = some (decide (0 ≤ x ∧ x ≤ 2000)) := by
 unfold L_CheckReadings_1.f; rw [within_eq]; rfl
theorem CheckReadings_l0 (l : List S85) (hl : l.length ≤ 8) : ∀ (n i : Nat), i + n = l.length → Ev (fun k => L_CheckReadings.l0 k l (l.length : Int) (i : Int)) (ckF l n i) ∧ Ev (fun k => Rf_CheckReadings.l0 k l (i : Int)) (ckF l n i)
 | 0, i, h => by
  constructor
  ·refine Ev.succ (f := fun k => L_CheckReadings.l0 k l (l.length : Int) (i : Int)) ?_; simp only [L_CheckReadings.l0, show ¬ (i : Int) < (l.length : Int) by omega, if_false, ckF]; exact Ev.some
  ·refine Ev.succ (f := fun k => Rf_CheckReadings.l0 k l (i : Int)) ?_; simp only [Rf_CheckReadings.l0, show ¬ (i : Int) < (l.length : Int) by omega, if_false, ckF]; exact Ev.some
 | n + 1, i, h => by
  have ih := CheckReadings_l0 l hl n (i + 1) (by omega); have e : ckF l (n + 1) i = if okR (rd_T85 l (i : Int)) then ckF l n (i + 1) else ((i : Int), 2) := rfl
  constructor
  ·refine Ev.succ (f := fun k => L_CheckReadings.l0 k l (l.length : Int) (i : Int)) ?_; rw [e]; simp only [L_CheckReadings.l0, show (i : Int) < (l.length : Int) by omega, show (0 : Int) ≤ (i : Int) by omega, if_true, ckR1_eq, within_eq, Option.bind_some, up (show i < 4611686018427387904 by omega), decide_eq_true_eq]; unfold okR
   by_cases h1 : 0 ≤ (rd_T85 l (i : Int)).f0 ∧ (rd_T85 l (i : Int)).f0 ≤ 2000
   ·by_cases h2 : 0 ≤ (rd_T85 l (i : Int)).f1 ∧ (rd_T85 l (i : Int)).f1 ≤ 2000
    ·by_cases h3 : 0 ≤ (rd_T85 l (i : Int)).f2 ∧ (rd_T85 l (i : Int)).f2 ≤ 1000
     ·simp only [h1, h2, h3, and_self, if_true]; exact ih.1
     ·simp only [h1, h2, h3, and_self, and_false, if_true, if_false]; exact Ev.some
    ·simp only [h1, h2, false_and, and_false, and_self, if_true, if_false]; exact Ev.some
   ·simp only [h1, false_and, if_false]; exact Ev.some
  ·refine Ev.succ (f := fun k => Rf_CheckReadings.l0 k l (i : Int)) ?_; rw [e]; simp only [Rf_CheckReadings.l0, show (i : Int) < (l.length : Int) by omega, show (0 : Int) ≤ (i : Int) by omega, if_true, Within_eq, Option.bind_some, up (show i < 4611686018427387904 by omega), decide_eq_true_eq]; unfold okR
   by_cases h1 : 0 ≤ (rd_T85 l (i : Int)).f0 ∧ (rd_T85 l (i : Int)).f0 ≤ 2000
   ·by_cases h2 : 0 ≤ (rd_T85 l (i : Int)).f1 ∧ (rd_T85 l (i : Int)).f1 ≤ 2000
    ·by_cases h3 : 0 ≤ (rd_T85 l (i : Int)).f2 ∧ (rd_T85 l (i : Int)).f2 ≤ 1000
     ·simp only [h1, h2, h3, and_self, if_true]; exact ih.2
     ·simp only [h1, h2, h3, and_self, and_false, if_true, if_false]; exact Ev.some
    ·simp only [h1, h2, false_and, and_false, and_self, if_true, if_false]; exact Ev.some
   ·simp only [h1, false_and, if_false]; exact Ev.some
theorem CheckReadings_ev (l : List S85) : Ev (fun k => L_CheckReadings.f k l) (ckR l) := by
 unfold L_CheckReadings.f ckR; simp only [unless_eq, Option.bind_some, decide_eq_true_eq]; refine Ev.bind (first_ev _ (by simp)) ?_
 by_cases h0 : l.length = 0
 ·simp only [h0, show ¬ (((0 : Nat) : Int) > 0) by omega, if_false, if_true, fnz, show ¬ (10 : Int) = 0 by decide]; exact Ev.some
 ·by_cases h1 : 8 < l.length
  ·simp only [h0, h1, show (l.length : Int) > 0 by omega, show ¬ (l.length : Int) ≤ 8 by omega, if_false, if_true, fnz, show ¬ (8 : Int) = 0 by decide]; exact Ev.some
  ·simp only [h0, h1, show (l.length : Int) > 0 by omega, show (l.length : Int) ≤ 8 by omega, if_false, if_true, fnz]; exact (CheckReadings_l0 l (by omega) l.length 0 (by omega)).1
theorem RCheckReadings_ev (l : List S85) : Ev (fun k => Rf_CheckReadings.f k l) (ckR l) := by
 unfold Rf_CheckReadings.f ckR
 by_cases h0 : l.length = 0
 ·simp only [h0, show (((0 : Nat) : Int) = 0) by rfl, if_true]; exact Ev.some
 ·by_cases h1 : 8 < l.length
  ·simp only [h0, h1, show ¬ (l.length : Int) = 0 by omega, show (l.length : Int) > 8 by omega, if_false, if_true]; exact Ev.some
  ·simp only [h0, h1, show ¬ (l.length : Int) = 0 by omega, show ¬ (l.length : Int) > 8 by omega, if_false]; exact (CheckReadings_l0 l (by omega) l.length 0 (by omega)).2
def rsE (l : List S85) : Int := (ckR l).2
theorem readingsErr_ev (l : List S85) : Ev (fun k => L_readingsErr.f k l) (rsE l) := Ev.bind (CheckReadings_ev l) Ev.some
theorem ReadingsErr_ev (l : List S85) : Ev (fun k => Rf_ReadingsErr.f k l) (rsE l) := Ev.bind (RCheckReadings_ev l) Ev.some
theorem ckF_ok (l : List S85) : ∀ (n i : Nat), (ckF l n i).2 = 0 → ∀ j, i ≤ j → j < i + n → okR (rd_T85 l (j : Int))
 | 0, i, _, j, h1, h2 => by omega
 | n + 1, i, h, j, h1, h2 => by
  unfold ckF at h
  by_cases e : okR (rd_T85 l (i : Int))
  ·rw [if_pos e] at h
   by_cases hj : j = i
   ·rw [hj]; exact e
   ·exact ckF_ok l n (i + 1) h j (by omega) (by omega)
  ·rw [if_neg e] at h; cases h
theorem readings_ok {l : List S85} (h : rsE l = 0) : 1 ≤ l.length ∧ l.length ≤ 8 ∧ ∀ t ∈ l, okR t := by
 unfold rsE ckR at h
 by_cases h0 : l.length = 0
 ·rw [if_pos h0] at h; cases h
 ·rw [if_neg h0] at h
  by_cases h1 : 8 < l.length
  ·rw [if_pos h1] at h; cases h
  ·rw [if_neg h1] at h; refine ⟨by omega, by omega, fun t ht => ?_⟩; obtain ⟨i, hi, rfl⟩ := List.getElem_of_mem ht; rw [← rd85_getElem hi]; exact ckF_ok l l.length 0 h i (by omega) (by omega)
theorem CopyReadings_eq (l : List S85) (h : l.length < 5864062014805) : Rf_CopyReadings.f l = some l := by
 unfold Rf_CopyReadings.f
 simp [h]
theorem few_eq (l : List S85) : Lw_few.f l = some (decide ((l.length : Int) ≤ 10)) := rfl

def g3 (s o d : Int) : Nat := Nat.gcd (Nat.gcd s.natAbs o.natAbs) d.natAbs
def lE (s o d : Int) : Int :=
 if (1 ≤ d ∧ d ≤ 1000000000) ∧ (-1000000000 ≤ s ∧ s ≤ 1000000000) ∧ (-1000000000000 ≤ o ∧ o ≤ 1000000000000) then (if g3 s o d = 1 then 0 else 3) else 2
theorem gcds3 (s o d : Int) : gcds 0 [s, o, d] = g3 s o d := by simp [gcds, g3]
theorem isSized_eq {a m : Int} (hm : 0 ≤ m ∧ m ≤ 4611686018427387904) : L_isSized.f a m = some (decide (-m ≤ a ∧ a ≤ m)) := by
 unfold L_isSized.f; rw [w64 (n := -m) (by omega), within_eq]; rfl
theorem lineErr_j0 (s o d : Int) (hs : -1000000000 ≤ s ∧ s ≤ 1000000000) (ho : -1000000000000 ≤ o ∧ o ≤ 1000000000000) (hd : 1 ≤ d ∧ d ≤ 1000000000) : Ev (fun k => L_lineErr.j0 k true s o d) (if g3 s o d = 1 then 0 else 3) := by
 refine Ev.succ (f := fun k => L_lineErr.j0 k true s o d) ?_; simp only [L_lineErr.j0, if_true]; refine Ev.bind (divisor_ev _ (by simp) (by simp; omega)) ?_; rw [gcds3]; simp only [unless_eq, Option.bind_some]
 by_cases h : g3 s o d = 1
 ·simp only [h, if_true, beq_self_eq_true, show (((1 : Nat) : Int) == 1) = true from rfl]; exact Ev.some
 ·have : (((g3 s o d : Nat) : Int) == 1) = false := beq_eq_false_iff_ne.mpr (by omega); simp only [h, this, if_false, Bool.false_eq_true]; exact Ev.some
theorem lineErr_ev (s o d : Int) : Ev (fun k => L_lineErr.f k s o d) (lE s o d) := by
 have hj : Ev (fun k => L_lineErr.j0 k false s o d) 2 := by
  refine Ev.succ (f := fun k => L_lineErr.j0 k false s o d) ?_; simp only [L_lineErr.j0, Bool.false_eq_true, if_false]; exact Ev.some
 unfold L_lineErr.f lE; simp only [within_eq, isSized_eq (m := 1000000000) (by omega), isSized_eq (m := 1000000000000) (by omega), Option.bind_some]
 by_cases h1 : 1 ≤ d ∧ d ≤ 1000000000
 ·by_cases h2 : -1000000000 ≤ s ∧ s ≤ 1000000000
  ·by_cases h3 : -1000000000000 ≤ o ∧ o ≤ 1000000000000
   ·simp only [h1, h2, h3, and_self, decide_true, if_true]; exact lineErr_j0 s o d h2 h3 h1
   ·simp only [h1, h2, h3, and_self, and_false, decide_true, decide_false, if_true, if_false]; exact hj
  ·simp only [h1, h2, and_self, false_and, and_false, decide_true, decide_false, if_true, if_false, Bool.false_eq_true]; exact hj
 ·simp only [h1, false_and, decide_false, if_false, Bool.false_eq_true]; exact hj
theorem g3_comm (s o d : Int) : Int.gcd d (Int.gcd s o : Nat) = g3 s o d := by
 show Nat.gcd d.natAbs (((Int.gcd s o : Nat) : Int)).natAbs = _
 rw [Int.natAbs_natCast, Nat.gcd_comm]; rfl
theorem LineErr_j0 (s o d : Int) (hs : -1000000000 ≤ s ∧ s ≤ 1000000000) (ho : -1000000000000 ≤ o ∧ o ≤ 1000000000000) (hd : 1 ≤ d ∧ d ≤ 1000000000) : Ev (fun k => Rf_LineErr.j0 k false s o d) (if g3 s o d = 1 then 0 else 3) := by
 refine Ev.succ (f := fun k => Rf_LineErr.j0 k false s o d) ?_; simp only [Rf_LineErr.j0, Bool.false_eq_true, if_false]; refine Ev.bind (Gcd_ev (by omega) (by omega)) ?_; have hg : (((Int.gcd s o : Nat) : Int)).natAbs < 9223372036854775808 := by rw [Int.natAbs_natCast]; exact gcd_lt (by omega) (by omega)
 refine Ev.bind (Gcd_ev (by omega) hg) ?_; rw [g3_comm]
 by_cases h : g3 s o d = 1
 ·simp only [h, if_true, show ((1 : Nat) : Int) = 1 from rfl]; exact Ev.some
 ·simp only [h, show ¬ ((g3 s o d : Nat) : Int) = 1 by omega, if_false]; exact Ev.some
theorem LineErr_ev (s o d : Int) : Ev (fun k => Rf_LineErr.f k s o d) (lE s o d) := by
 have hj : Ev (fun k => Rf_LineErr.j0 k true s o d) 2 := by
  refine Ev.succ (f := fun k => Rf_LineErr.j0 k true s o d) ?_; simp only [Rf_LineErr.j0, if_true]; exact Ev.some
 unfold Rf_LineErr.f lE; simp only [Within_eq, Option.bind_some]
 by_cases h1 : 1 ≤ d ∧ d ≤ 1000000000
 ·by_cases h2 : -1000000000 ≤ s ∧ s ≤ 1000000000
  ·by_cases h3 : -1000000000000 ≤ o ∧ o ≤ 1000000000000
   ·simp only [h1, h2, h3, and_self, decide_true, if_true, Bool.not_true]; exact LineErr_j0 s o d h2 h3 h1
   ·simp only [h1, h2, h3, and_self, and_false, decide_true, decide_false, if_true, if_false, Bool.not_false]; exact hj
  ·simp only [h1, h2, and_self, false_and, and_false, decide_true, decide_false, if_true, if_false, Bool.false_eq_true]; exact hj
 ·simp only [h1, false_and, decide_false, if_false, Bool.false_eq_true]; exact hj
def sX : List S85 → Int
 | [] => 0
 | t :: r => t.f0 + sX r
def sY : List S85 → Int
 | [] => 0
 | t :: r => t.f1 + sY r
def sXX : List S85 → Int
 | [] => 0
 | t :: r => t.f0 * t.f0 + sXX r
def sXY : List S85 → Int
 | [] => 0
 | t :: r => t.f0 * t.f1 + sXY r
def sYY : List S85 → Int
 | [] => 0
 | t :: r => t.f1 * t.f1 + sYY r
theorem p2k {x y : Int} (hx : 0 ≤ x ∧ x ≤ 2000) (hy : 0 ≤ y ∧ y ≤ 2000) : 0 ≤ x * y ∧ x * y ≤ 4000000 := by
 have h1 : x * y ≤ 2000 * y := Int.mul_le_mul_of_nonneg_right hx.2 hy.1; exact ⟨Int.mul_nonneg hx.1 hy.1, by omega⟩
theorem sums_in : ∀ r : List S85, (∀ t ∈ r, okR t) → (0 ≤ sX r ∧ sX r ≤ 2000 * (r.length : Int)) ∧ (0 ≤ sY r ∧ sY r ≤ 2000 * (r.length : Int)) ∧ (0 ≤ sXX r ∧ sXX r ≤ 4000000 * (r.length : Int)) ∧ (0 ≤ sXY r ∧ sXY r ≤ 4000000 * (r.length : Int)) ∧ (0 ≤ sYY r ∧ sYY r ≤ 4000000 * (r.length : Int))
 | [], _ => by simp [sX, sY, sXX, sXY, sYY]
 | t :: r, h => by
  have ih := sums_in r (fun x hx => h x (List.mem_cons_of_mem _ hx)); have ht := h t List.mem_cons_self; have a := p2k ht.1 ht.1; have b := p2k ht.1 ht.2.1; have c := p2k ht.2.1 ht.2.1; have d0 := ht.1; have d1 := ht.2.1; simp only [sX, sY, sXX, sXY, sYY, List.length_cons]
  omega
theorem sumsOf_l0 (l : List S85) (hl : l.length ≤ 8) (hk : ∀ t ∈ l, okR t) : ∀ (n i : Nat) (x y xx xy yy : Int), i + n = l.length → (0 ≤ x ∧ x ≤ 2000 * (i : Int)) → (0 ≤ y ∧ y ≤ 2000 * (i : Int)) → (0 ≤ xx ∧ xx ≤ 4000000 * (i : Int)) → (0 ≤ xy ∧ xy ≤ 4000000 * (i : Int)) → (0 ≤ yy ∧ yy ≤ 4000000 * (i : Int)) →
  Ev (fun k => L_sumsOf.l0 k l (l.length : Int) (i : Int) (i : Int) x y xx xy yy) ((l.length : Int), x + sX (l.drop i), y + sY (l.drop i), xx + sXX (l.drop i), xy + sXY (l.drop i), yy + sYY (l.drop i))
 | 0, i, x, y, xx, xy, yy, h, _, _, _, _, _ => by
  refine Ev.succ (f := fun k => L_sumsOf.l0 k l (l.length : Int) (i : Int) (i : Int) x y xx xy yy) ?_; simp only [L_sumsOf.l0, show ¬ (i : Int) < (l.length : Int) by omega, if_false]; rw [show l.drop i = [] from List.drop_eq_nil_of_le (by omega), show (i : Int) = (l.length : Int) by omega]; simp only [sX, sY, sXX, sXY, sYY, Int.add_zero]; exact Ev.some
 | n + 1, i, x, y, xx, xy, yy, h, hx, hy, hxx, hxy, hyy => by
  refine Ev.succ (f := fun k => L_sumsOf.l0 k l (l.length : Int) (i : Int) (i : Int) x y xx xy yy) ?_; have hi : i < l.length := by omega
  have ht := hk _ (rd85_mem hi); rw [rd85_drop hi]; obtain ⟨t, ht0⟩ : ∃ t, t = rd_T85 l (i : Int) := ⟨_, rfl⟩; rw [← ht0] at ht ⊢; have a := p2k ht.1 ht.1; have b := p2k ht.1 ht.2.1; have c := p2k ht.2.1 ht.2.1; have d0 := ht.1; have d1 := ht.2.1; have ih := sumsOf_l0 l hl hk n (i + 1) (x + t.f0) (y + t.f1) (xx + t.f0 * t.f0) (xy + t.f0 * t.f1) (yy + t.f1 * t.f1) (by omega) (by omega) (by omega) (by omega) (by omega) (by omega); simp only [L_sumsOf.l0, show (i : Int) < (l.length : Int) by omega, show (0 : Int) ≤ (i : Int) by omega, if_true, ← ht0, up (show i < 4611686018427387904 by omega), w64 (n := t.f0 * t.f0) (by omega), w64 (n := t.f0 * t.f1) (by omega), w64 (n := t.f1 * t.f1) (by omega), w64 (n := x + t.f0) (by omega), w64 (n := y + t.f1) (by omega), w64 (n := xx + t.f0 * t.f0) (by omega), w64 (n := xy + t.f0 * t.f1) (by omega), w64 (n := yy + t.f1 * t.f1) (by omega), sX, sY, sXX, sXY, sYY]; rw [← Int.add_assoc, ← Int.add_assoc, ← Int.add_assoc, ← Int.add_assoc, ← Int.add_assoc]; exact ih
def dA (l : List S85) : Int := (l.length : Int) * sXX l - sX l * sX l
def dB (l : List S85) : Int := (l.length : Int) * sXY l - sX l * sY l
def dQ (l : List S85) : Int := (l.length : Int) * sYY l - sY l * sY l
def dC (l : List S85) : Int := sY l * sXX l - sX l * sXY l
theorem mulN {a b A B : Int} (ha : 0 ≤ a ∧ a ≤ A) (hb : 0 ≤ b ∧ b ≤ B) : 0 ≤ a * b ∧ a * b ≤ A * B := by
 have h1 : a * b ≤ A * b := Int.mul_le_mul_of_nonneg_right ha.2 hb.1; have h2 : A * b ≤ A * B := Int.mul_le_mul_of_nonneg_left hb.2 (by omega); exact ⟨Int.mul_nonneg ha.1 hb.1, by omega⟩
theorem prods_in {l : List S85} (hl : l.length ≤ 8) (hk : ∀ t ∈ l, okR t) :
  (0 ≤ (l.length : Int) * sXX l ∧ (l.length : Int) * sXX l ≤ 256000000) ∧ (0 ≤ sX l * sX l ∧ sX l * sX l ≤ 256000000) ∧ (0 ≤ (l.length : Int) * sXY l ∧ (l.length : Int) * sXY l ≤ 256000000) ∧ (0 ≤ sX l * sY l ∧ sX l * sY l ≤ 256000000) ∧
  (0 ≤ (l.length : Int) * sYY l ∧ (l.length : Int) * sYY l ≤ 256000000) ∧ (0 ≤ sY l * sY l ∧ sY l * sY l ≤ 256000000) ∧ (0 ≤ sY l * sXX l ∧ sY l * sXX l ≤ 512000000000) ∧ (0 ≤ sX l * sXY l ∧ sX l * sXY l ≤ 512000000000) := by
 obtain ⟨h1, h2, h3, h4, h5⟩ := sums_in l hk; have n8 : 0 ≤ (l.length : Int) ∧ (l.length : Int) ≤ 8 := by omega
 have x8 : 0 ≤ sX l ∧ sX l ≤ 16000 := by omega
 have y8 : 0 ≤ sY l ∧ sY l ≤ 16000 := by omega
 have xx8 : 0 ≤ sXX l ∧ sXX l ≤ 32000000 := by omega
 have xy8 : 0 ≤ sXY l ∧ sXY l ≤ 32000000 := by omega
 have yy8 : 0 ≤ sYY l ∧ sYY l ≤ 32000000 := by omega
 exact ⟨mulN n8 xx8, mulN x8 x8, mulN n8 xy8, mulN x8 y8, mulN n8 yy8, mulN y8 y8, mulN y8 xx8, mulN x8 xy8⟩
theorem spread_eq {l : List S85} (hl : l.length ≤ 8) (hk : ∀ t ∈ l, okR t) : L_sums_spread.f (l.length : Int) (sX l) (sY l) (sXX l) (sXY l) (sYY l) = some (dA l) := by
 obtain ⟨h1, h2, h3, h4, h5, h6, h7, h8⟩ := prods_in hl hk; unfold L_sums_spread.f dA; rw [w64 (n := (l.length : Int) * sXX l) (by omega), w64 (n := sX l * sX l) (by omega), w64 (by omega)]
theorem shared_eq {l : List S85} (hl : l.length ≤ 8) (hk : ∀ t ∈ l, okR t) : L_sums_shared.f (l.length : Int) (sX l) (sY l) (sXX l) (sXY l) (sYY l) = some (dB l) := by
 obtain ⟨h1, h2, h3, h4, h5, h6, h7, h8⟩ := prods_in hl hk; unfold L_sums_shared.f dB; rw [w64 (n := (l.length : Int) * sXY l) (by omega), w64 (n := sX l * sY l) (by omega), w64 (by omega)]
theorem square_eq {l : List S85} (hl : l.length ≤ 8) (hk : ∀ t ∈ l, okR t) : L_sums_square.f (l.length : Int) (sX l) (sY l) (sXX l) (sXY l) (sYY l) = some (dQ l) := by
 obtain ⟨h1, h2, h3, h4, h5, h6, h7, h8⟩ := prods_in hl hk; unfold L_sums_square.f dQ; rw [w64 (n := (l.length : Int) * sYY l) (by omega), w64 (n := sY l * sY l) (by omega), w64 (by omega)]
theorem dABC_in {l : List S85} (hl : l.length ≤ 8) (hk : ∀ t ∈ l, okR t) : (-256000000 ≤ dA l ∧ dA l ≤ 256000000) ∧ (-256000000 ≤ dB l ∧ dB l ≤ 256000000) ∧ (-256000000 ≤ dQ l ∧ dQ l ≤ 256000000) ∧ (-512000000000 ≤ dC l ∧ dC l ≤ 512000000000) := by
 obtain ⟨h1, h2, h3, h4, h5, h6, h7, h8⟩ := prods_in hl hk; unfold dA dB dQ dC; omega
def opE (l : List S85) : Int := if rsE l = 0 then (if dA l = 0 then 11 else 0) else rsE l
def opV (l : List S85) : Int × Int × Int × Int × Int × Int × Int := if rsE l = 0 then ((l.length : Int), sX l, sY l, sXX l, sXY l, sYY l, opE l) else (0, 0, 0, 0, 0, 0, opE l)
theorem open_ev (l : List S85) : Ev (fun k => L_open.f k l) (opV l) := by
 unfold L_open.f; refine Ev.bind (readingsErr_ev l) ?_
 by_cases h : rsE l = 0
 ·obtain ⟨h1, h2, hk⟩ := readings_ok h; have := sumsOf_l0 l h2 hk l.length 0 0 0 0 0 0 (by omega) (by omega) (by omega) (by omega) (by omega) (by omega); simp only [List.drop_zero, Int.zero_add] at this; have hs : Ev (fun k => L_sumsOf.f k l) ((l.length : Int), sX l, sY l, sXX l, sXY l, sYY l) := this; unfold opV opE; simp only [h, if_true]; refine Ev.bind hs ?_; simp only [spread_eq h2 hk, unless_eq, Option.bind_some]
  by_cases c : dA l = 0
  ·simp only [c, bne_self_eq_false, Bool.false_eq_true, if_false, if_true]; exact Ev.some
  ·have : (dA l != 0) = true := bne_iff_ne.mpr c; simp only [c, this, if_true, if_false]; exact Ev.some
 ·unfold opV opE; simp only [h, if_false]; exact Ev.some
theorem op_ok {l : List S85} (h : opE l = 0) : rsE l = 0 ∧ dA l ≠ 0 := by
 unfold opE at h
 by_cases h1 : rsE l = 0
 ·rw [if_pos h1] at h
  by_cases h2 : dA l = 0
  ·rw [if_pos h2] at h; cases h
  ·exact ⟨h1, h2⟩
 ·rw [if_neg h1] at h; exact absurd h h1

def dev (x : Int) : List S85 → Int
 | [] => 0
 | t :: r => (t.f0 - x) * (t.f0 - x) + dev x r
theorem sq_nonneg (x : Int) : 0 ≤ x * x := by
 by_cases c : 0 ≤ x
 ·exact Int.mul_nonneg c c
 ·have := Int.mul_nonneg (show 0 ≤ -x by omega) (show 0 ≤ -x by omega); rw [Int.neg_mul_neg] at this; exact this
theorem sq_zero {x : Int} (h : x * x = 0) : x = 0 := by
 rcases Int.mul_eq_zero.1 h with h | h <;> exact h
theorem dev_nn (x : Int) : ∀ r : List S85, 0 ≤ dev x r
 | [] => by simp [dev]
 | t :: r => by have := dev_nn x r; have := sq_nonneg (t.f0 - x); simp only [dev]; omega
theorem dev_eq (x : Int) : ∀ r : List S85, dev x r = sXX r - 2 * x * sX r + (r.length : Int) * (x * x)
 | [] => by simp [dev, sXX, sX]
 | t :: r => by
  simp only [dev, dev_eq x r, sXX, sX, List.length_cons]
  push_cast
  grind
theorem dA_cons (t : S85) (r : List S85) : dA (t :: r) = dA r + dev t.f0 r := by
 rw [dev_eq]; unfold dA; simp only [sXX, sX, List.length_cons]
 push_cast
 grind
theorem dA_nn : ∀ l : List S85, 0 ≤ dA l
 | [] => by simp [dA, sXX, sX]
 | t :: r => by have := dA_nn r; have := dev_nn t.f0 r; rw [dA_cons]; omega
theorem dev_zero (x : Int) : ∀ r : List S85, dev x r = 0 ↔ ∀ t ∈ r, t.f0 = x
 | [] => by simp [dev]
 | t :: r => by
  have h1 := dev_nn x r; have h2 := sq_nonneg (t.f0 - x); have ih := dev_zero x r; simp only [dev, List.mem_cons, forall_eq_or_imp, ← ih]
  constructor
  ·intro h; have : t.f0 - x = 0 := sq_zero (by omega); exact ⟨by omega, by omega⟩
  ·rintro ⟨e, h⟩; rw [e, h]; simp
theorem dA_zero : ∀ l : List S85, dA l = 0 ↔ ∀ t ∈ l, ∀ u ∈ l, t.f0 = u.f0
 | [] => by simp [dA, sXX, sX]
 | t :: r => by
  have h1 := dA_nn r; have h2 := dev_nn t.f0 r; have ih := dA_zero r; rw [dA_cons]
  constructor
  ·intro h; have hz := (dev_zero t.f0 r).1 (by omega); have key : ∀ u ∈ t :: r, u.f0 = t.f0 := by
    intro u hu
    rcases List.mem_cons.1 hu with rfl | hu
    ·rfl
    ·exact hz u hu
   intro u hu v hv; rw [key u hu, key v hv]
  ·intro h; have a := (dev_zero t.f0 r).2 (fun u hu => h u (List.mem_cons_of_mem _ hu) t List.mem_cons_self); have b := ih.2 (fun u hu v hv => h u (List.mem_cons_of_mem _ hu) v (List.mem_cons_of_mem _ hv))
   omega
theorem AreEqual_l0 (l : List S85) (h1 : 1 ≤ l.length) (hl : l.length ≤ 8) : ∀ (n i : Nat), i + n = l.length → Ev (fun k => Rf_AreEqual.l0 k l (i : Int)) (decide (∀ t ∈ l.drop i, t.f0 = (rd_T85 l 0).f0))
 | 0, i, h => by
  refine Ev.succ (f := fun k => Rf_AreEqual.l0 k l (i : Int)) ?_; simp only [Rf_AreEqual.l0, show ¬ (i : Int) < (l.length : Int) by omega, if_false]; rw [show l.drop i = [] from List.drop_eq_nil_of_le (by omega), decide_eq_true (fun t ht => by cases ht)]; exact Ev.some
 | n + 1, i, h => by
  refine Ev.succ (f := fun k => Rf_AreEqual.l0 k l (i : Int)) ?_; have ih := AreEqual_l0 l h1 hl n (i + 1) (by omega); rw [rd85_drop (show i < l.length by omega)]; simp only [Rf_AreEqual.l0, show (i : Int) < (l.length : Int) by omega, show (0 : Int) ≤ (i : Int) by omega, show (0 : Int) < (l.length : Int) by omega, if_true, up (show i < 4611686018427387904 by omega), List.mem_cons, forall_eq_or_imp]
  by_cases c : (rd_T85 l (i : Int)).f0 = (rd_T85 l 0).f0
  ·simp only [c, if_true, true_and]; exact ih
  ·simp only [c, if_false, false_and, decide_false]; exact Ev.some
theorem AreEqual_ev {l : List S85} (h : rsE l = 0) : Ev (fun k => Rf_AreEqual.f k l) (decide (dA l = 0)) := by
 obtain ⟨h1, h2, hk⟩ := readings_ok h; have := AreEqual_l0 l h1 h2 l.length 0 (by omega); rw [List.drop_zero] at this; have e : decide (dA l = 0) = decide (∀ t ∈ l, t.f0 = (rd_T85 l 0).f0) := by
  rw [decide_eq_decide, dA_zero]; have hm : rd_T85 l 0 ∈ l := rd85_mem (i := 0) (by omega); exact ⟨fun h t ht => h t ht _ hm, fun h t ht u hu => (h t ht).trans (h u hu).symm⟩
 rw [e]; exact this

def gL (l : List S85) : Int := (g3 (dB l) (dC l) (dA l) : Int)
def ln (l : List S85) : Int × Int × Int := (dB l / gL l, dC l / gL l, dA l / gL l)
theorem g3_dvd (s o d : Int) : (g3 s o d : Int) ∣ s ∧ (g3 s o d : Int) ∣ o ∧ (g3 s o d : Int) ∣ d := by
 unfold g3; have h1 := Nat.gcd_dvd_left (Nat.gcd s.natAbs o.natAbs) d.natAbs; have h2 := Nat.gcd_dvd_right (Nat.gcd s.natAbs o.natAbs) d.natAbs; exact ⟨Int.ofNat_dvd_left.2 (Nat.dvd_trans h1 (Nat.gcd_dvd_left _ _)), Int.ofNat_dvd_left.2 (Nat.dvd_trans h1 (Nat.gcd_dvd_right _ _)), Int.ofNat_dvd_left.2 h2⟩
theorem g3_pos {s o d : Int} (h : d ≠ 0) : 0 < (g3 s o d : Int) := by
 have : 0 < g3 s o d := Nat.gcd_pos_of_pos_right _ (by omega)
 omega
theorem ex_div {a g : Int} (hg : 0 < g) (hd : g ∣ a) : Int.tdiv a g = a / g ∧ a = (a / g) * g ∧ (a / g).natAbs ≤ a.natAbs :=
 ⟨Int.tdiv_eq_ediv_of_dvd hd, (Int.ediv_mul_cancel hd).symm, Int.natAbs_ediv_le_natAbs a g⟩
theorem ln_mul {l : List S85} (h0 : dA l ≠ 0) : 0 < gL l ∧ dB l = (ln l).1 * gL l ∧ dC l = (ln l).2.1 * gL l ∧ dA l = (ln l).2.2 * gL l := by
 obtain ⟨d1, d2, d3⟩ := g3_dvd (dB l) (dC l) (dA l); have hg := g3_pos (s := dB l) (o := dC l) h0; exact ⟨hg, (ex_div hg d1).2.1, (ex_div hg d2).2.1, (ex_div hg d3).2.1⟩
theorem LineOf_ev (l : List S85) : Ev (fun k => L_LineOf.f k l) (if opE l = 0 then ((ln l).1, (ln l).2.1, (ln l).2.2, 0) else (0, 0, 0, opE l)) := by
 unfold L_LineOf.f; refine Ev.bind (open_ev l) ?_
 by_cases h : opE l = 0
 ·obtain ⟨hr, h0⟩ := op_ok h; obtain ⟨h1, h2, hk⟩ := readings_ok hr; obtain ⟨i1, i2, i3, i4⟩ := dABC_in h2 hk; obtain ⟨p1, p2, p3, p4, p5, p6, p7, p8⟩ := prods_in h2 hk; unfold opV; simp only [hr, h, if_true, shared_eq h2 hk, spread_eq h2 hk, Option.bind_some]; have hc : wrap64 (wrap64 (sY l * sXX l) - wrap64 (sX l * sXY l)) = dC l := by
   unfold dC; rw [w64 (n := sY l * sXX l) (by omega), w64 (n := sX l * sXY l) (by omega), w64 (by omega)]
  rw [hc]; refine Ev.bind (divisor_ev [dB l, dC l, dA l] (by simp) (by simp; omega)) ?_; rw [gcds3]; obtain ⟨d1, d2, d3⟩ := g3_dvd (dB l) (dC l) (dA l); have hg := g3_pos (s := dB l) (o := dC l) h0; obtain ⟨a1, a2, a3⟩ := ex_div hg d1; obtain ⟨b1, b2, b3⟩ := ex_div hg d2; obtain ⟨c1, c2, c3⟩ := ex_div hg d3; simp only [show ¬ (g3 (dB l) (dC l) (dA l) : Int) = 0 by omega, if_false, a1, b1, c1]; rw [w64 (n := dB l / _) (by omega), w64 (n := dC l / _) (by omega), w64 (n := dA l / _) (by omega)]; exact Ev.some
 ·have h2 : (opV l).2.2.2.2.2.2 = opE l := by unfold opV; split <;> rfl
  simp only [h2, h, if_false]; exact Ev.some
theorem Line_l0 (l : List S85) (hl : l.length ≤ 8) (hk : ∀ t ∈ l, okR t) (h0 : dA l ≠ 0) : ∀ (n i : Nat) (x y xx xy : Int), i + n = l.length → (0 ≤ x ∧ x ≤ 2000 * (i : Int)) → (0 ≤ y ∧ y ≤ 2000 * (i : Int)) → (0 ≤ xx ∧ xx ≤ 4000000 * (i : Int)) → (0 ≤ xy ∧ xy ≤ 4000000 * (i : Int)) →
  x + sX (l.drop i) = sX l → y + sY (l.drop i) = sY l → xx + sXX (l.drop i) = sXX l → xy + sXY (l.drop i) = sXY l → Ev (fun k => Rf_Line.l0 k l (l.length : Int) x y xx xy (i : Int)) (ln l)
 | 0, i, x, y, xx, xy, h, _, _, _, _, e1, e2, e3, e4 => by
  refine Ev.succ (f := fun k => Rf_Line.l0 k l (l.length : Int) x y xx xy (i : Int)) ?_; simp only [Rf_Line.l0, show ¬ (i : Int) < (l.length : Int) by omega, if_false]; rw [show l.drop i = [] from List.drop_eq_nil_of_le (by omega)] at e1 e2 e3 e4; simp only [sX, sY, sXX, sXY, Int.add_zero] at e1 e2 e3 e4; rw [e1, e2, e3, e4]; obtain ⟨i1, i2, i3, i4⟩ := dABC_in hl hk; obtain ⟨p1, p2, p3, p4, p5, p6, p7, p8⟩ := prods_in hl hk; have hc : wrap64 (wrap64 (sY l * sXX l) - wrap64 (sX l * sXY l)) = dC l := by
   unfold dC; rw [w64 (n := sY l * sXX l) (by omega), w64 (n := sX l * sXY l) (by omega), w64 (by omega)]
  have ha : wrap64 (wrap64 ((l.length : Int) * sXX l) - wrap64 (sX l * sX l)) = dA l := by
   unfold dA; rw [w64 (n := (l.length : Int) * sXX l) (by omega), w64 (n := sX l * sX l) (by omega), w64 (by omega)]
  have hb : wrap64 (wrap64 ((l.length : Int) * sXY l) - wrap64 (sX l * sY l)) = dB l := by
   unfold dB; rw [w64 (n := (l.length : Int) * sXY l) (by omega), w64 (n := sX l * sY l) (by omega), w64 (by omega)]
  rw [ha, hb, hc]; refine Ev.bind (Gcd_ev (by omega) (by omega)) ?_; have hgl : (((Int.gcd (dB l) (dC l) : Nat) : Int)).natAbs < 9223372036854775808 := by rw [Int.natAbs_natCast]; exact gcd_lt (by omega) (by omega)
  refine Ev.bind (Gcd_ev (by omega) hgl) ?_; rw [g3_comm]; obtain ⟨d1, d2, d3⟩ := g3_dvd (dB l) (dC l) (dA l); have hg := g3_pos (s := dB l) (o := dC l) h0; obtain ⟨a1, a2, a3⟩ := ex_div hg d1; obtain ⟨b1, b2, b3⟩ := ex_div hg d2; obtain ⟨c1, c2, c3⟩ := ex_div hg d3; simp only [show ¬ (g3 (dB l) (dC l) (dA l) : Int) = 0 by omega, if_false, a1, b1, c1]; rw [w64 (n := dB l / _) (by omega), w64 (n := dC l / _) (by omega), w64 (n := dA l / _) (by omega)]; exact Ev.some
 | n + 1, i, x, y, xx, xy, h, hx, hy, hxx, hxy, e1, e2, e3, e4 => by
  refine Ev.succ (f := fun k => Rf_Line.l0 k l (l.length : Int) x y xx xy (i : Int)) ?_; have hi : i < l.length := by omega
  have ht := hk _ (rd85_mem hi); rw [rd85_drop hi] at e1 e2 e3 e4; obtain ⟨t, ht0⟩ : ∃ t, t = rd_T85 l (i : Int) := ⟨_, rfl⟩; rw [← ht0] at ht e1 e2 e3 e4; have a := p2k ht.1 ht.1; have b := p2k ht.1 ht.2.1; have d0 := ht.1; have d1 := ht.2.1; simp only [sX, sY, sXX, sXY] at e1 e2 e3 e4; have ih := Line_l0 l hl hk h0 n (i + 1) (x + t.f0) (y + t.f1) (xx + t.f0 * t.f0) (xy + t.f0 * t.f1) (by omega) (by omega) (by omega) (by omega) (by omega) (by omega) (by omega) (by omega) (by omega); simp only [Rf_Line.l0, show (i : Int) < (l.length : Int) by omega, show (0 : Int) ≤ (i : Int) by omega, if_true, ← ht0, up (show i < 4611686018427387904 by omega), w64 (n := t.f0 * t.f0) (by omega), w64 (n := t.f0 * t.f1) (by omega), w64 (n := x + t.f0) (by omega), w64 (n := y + t.f1) (by omega), w64 (n := xx + t.f0 * t.f0) (by omega), w64 (n := xy + t.f0 * t.f1) (by omega)]; exact ih
theorem Line_ev {l : List S85} (h : rsE l = 0) (h0 : dA l ≠ 0) : Ev (fun k => Rf_Line.f k l) (ln l) := by
 obtain ⟨h1, h2, hk⟩ := readings_ok h; exact Line_l0 l h2 hk h0 l.length 0 0 0 0 0 (by omega) (by omega) (by omega) (by omega) (by omega) (by rw [List.drop_zero]; omega) (by rw [List.drop_zero]; omega) (by rw [List.drop_zero]; omega) (by rw [List.drop_zero]; omega)

def off (s o d : Int) (t : S85) : Int := d * t.f1 - s * t.f0 - o
def sO (s o d : Int) : List S85 → Int
 | [] => 0
 | t :: r => off s o d t + sO s o d r
def sP (s o d : Int) : List S85 → Int
 | [] => 0
 | t :: r => off s o d t * t.f0 + sP s o d r
def clR (a b : Int) : Int × Int := if a = 0 then (if b = 0 then (0, 0) else (1, 17)) else (0, 17)
theorem off_in {s o d : Int} (hs : -1000000000 ≤ s ∧ s ≤ 1000000000) (ho : -1000000000000 ≤ o ∧ o ≤ 1000000000000) (hd : -1000000000 ≤ d ∧ d ≤ 1000000000) {t : S85} (ht : okR t) :
  (-2000000000000 ≤ d * t.f1 ∧ d * t.f1 ≤ 2000000000000) ∧ (-2000000000000 ≤ s * t.f0 ∧ s * t.f0 ≤ 2000000000000) ∧ (-5000000000000 ≤ off s o d t ∧ off s o d t ≤ 5000000000000) ∧ (-10000000000000000 ≤ off s o d t * t.f0 ∧ off s o d t * t.f0 ≤ 10000000000000000) := by
 have key : ∀ a b : Int, (-1000000000 ≤ a ∧ a ≤ 1000000000) → (0 ≤ b ∧ b ≤ 2000) → -2000000000000 ≤ a * b ∧ a * b ≤ 2000000000000 := by
  intro a b ha hb; have h : (a * b).natAbs ≤ 1000000000 * 2000 := by rw [Int.natAbs_mul]; exact Nat.mul_le_mul (by omega) (by omega)
  omega
 have k1 := key d t.f1 hd ht.2.1; have k2 := key s t.f0 hs ht.1; have k3 : -5000000000000 ≤ off s o d t ∧ off s o d t ≤ 5000000000000 := by unfold off; omega
 have k4 : (off s o d t * t.f0).natAbs ≤ 5000000000000 * 2000 := by rw [Int.natAbs_mul]; exact Nat.mul_le_mul (by omega) (by have := ht.1; omega)
 exact ⟨k1, k2, k3, by omega⟩
theorem CheckLine_l0 (l : List S85) (hl : l.length ≤ 8) (hk : ∀ t ∈ l, okR t) {s o d : Int} (hs : -1000000000 ≤ s ∧ s ≤ 1000000000) (ho : -1000000000000 ≤ o ∧ o ≤ 1000000000000) (hd : -1000000000 ≤ d ∧ d ≤ 1000000000) : ∀ (n i : Nat) (a b : Int), i + n = l.length → (-5000000000000 * (i : Int) ≤ a ∧ a ≤ 5000000000000 * (i : Int)) → (-10000000000000000 * (i : Int) ≤ b ∧ b ≤ 10000000000000000 * (i : Int)) →
  Ev (fun k => L_CheckLine.l0 k a b l (l.length : Int) (i : Int) s o d) (clR (a + sO s o d (l.drop i)) (b + sP s o d (l.drop i))) ∧ Ev (fun k => Rf_CheckLine.l0 k l a b (i : Int) s o d) (clR (a + sO s o d (l.drop i)) (b + sP s o d (l.drop i)))
 | 0, i, a, b, h, _, _ => by
  rw [show l.drop i = [] from List.drop_eq_nil_of_le (by omega)]; simp only [sO, sP, Int.add_zero]; unfold clR
  constructor
  ·refine Ev.succ (f := fun k => L_CheckLine.l0 k a b l (l.length : Int) (i : Int) s o d) ?_; simp only [L_CheckLine.l0, show ¬ (i : Int) < (l.length : Int) by omega, if_false]
   by_cases c1 : a = 0
   ·by_cases c2 : b = 0
    ·simp only [c1, c2, if_true]; exact Ev.some
    ·simp only [c1, c2, if_true, if_false]; exact Ev.some
   ·simp only [c1, if_false]; exact Ev.some
  ·refine Ev.succ (f := fun k => Rf_CheckLine.l0 k l a b (i : Int) s o d) ?_; simp only [Rf_CheckLine.l0, show ¬ (i : Int) < (l.length : Int) by omega, if_false]
   by_cases c1 : a = 0
   ·by_cases c2 : b = 0
    ·simp only [c1, c2, if_true]; exact Ev.some
    ·simp only [c1, c2, if_true, if_false]; exact Ev.some
   ·simp only [c1, if_false]; exact Ev.some
 | n + 1, i, a, b, h, ha, hb => by
  have hi : i < l.length := by omega
  have ht := hk _ (rd85_mem hi); rw [rd85_drop hi]; obtain ⟨t, ht0⟩ : ∃ t, t = rd_T85 l (i : Int) := ⟨_, rfl⟩; rw [← ht0] at ht ⊢; obtain ⟨k1, k2, k3, k4⟩ := off_in hs ho hd ht; have e1 : wrap64 (wrap64 (wrap64 (d * t.f1) - wrap64 (s * t.f0)) - o) = off s o d t := by
   rw [w64 (n := d * t.f1) (by omega), w64 (n := s * t.f0) (by omega), w64 (n := d * t.f1 - s * t.f0) (by omega), w64 (by omega)]; rfl
  have ih := CheckLine_l0 l hl hk hs ho hd n (i + 1) (a + off s o d t) (b + off s o d t * t.f0) (by omega) (by omega) (by omega); simp only [sO, sP]; rw [← Int.add_assoc, ← Int.add_assoc]
  constructor
  ·refine Ev.succ (f := fun k => L_CheckLine.l0 k a b l (l.length : Int) (i : Int) s o d) ?_; simp only [L_CheckLine.l0, show (i : Int) < (l.length : Int) by omega, show (0 : Int) ≤ (i : Int) by omega, if_true, ← ht0, e1, up (show i < 4611686018427387904 by omega), w64 (n := off s o d t * t.f0) (by omega), w64 (n := a + off s o d t) (by omega), w64 (n := b + off s o d t * t.f0) (by omega)]; exact ih.1
  ·refine Ev.succ (f := fun k => Rf_CheckLine.l0 k l a b (i : Int) s o d) ?_; simp only [Rf_CheckLine.l0, show (i : Int) < (l.length : Int) by omega, show (0 : Int) ≤ (i : Int) by omega, if_true, ← ht0, e1, up (show i < 4611686018427387904 by omega), w64 (n := off s o d t * t.f0) (by omega), w64 (n := a + off s o d t) (by omega), w64 (n := b + off s o d t * t.f0) (by omega)]; exact ih.2
theorem lE_ok {s o d : Int} (h : lE s o d = 0) : (1 ≤ d ∧ d ≤ 1000000000) ∧ (-1000000000 ≤ s ∧ s ≤ 1000000000) ∧ (-1000000000000 ≤ o ∧ o ≤ 1000000000000) ∧ g3 s o d = 1 := by
 unfold lE at h
 by_cases e : (1 ≤ d ∧ d ≤ 1000000000) ∧ (-1000000000 ≤ s ∧ s ≤ 1000000000) ∧ (-1000000000000 ≤ o ∧ o ≤ 1000000000000)
 ·rw [if_pos e] at h
  by_cases e2 : g3 s o d = 1
  ·exact ⟨e.1, e.2.1, e.2.2, e2⟩
  ·rw [if_neg e2] at h; cases h
 ·rw [if_neg e] at h; cases h
def clV (l : List S85) (s o d : Int) : Int × Int := clR (sO s o d l) (sP s o d l)
theorem CheckLine_ev (l : List S85) (s o d : Int) : Ev (fun k => L_CheckLine.f k l s o d) (if opE l = 0 then (if lE s o d = 0 then clV l s o d else (0, lE s o d)) else (0, opE l)) := by
 unfold L_CheckLine.f; refine Ev.bind (open_ev l) ?_; have h2 : (opV l).2.2.2.2.2.2 = opE l := by unfold opV; split <;> rfl
 rw [h2]; refine Ev.bind (lineErr_ev s o d) ?_; refine Ev.bind (first_ev _ (by simp)) ?_
 by_cases h : opE l = 0
 ·by_cases hl : lE s o d = 0
  ·obtain ⟨hr, h0⟩ := op_ok h; obtain ⟨h1, h8, hk⟩ := readings_ok hr; obtain ⟨e1, e2, e3, _⟩ := lE_ok hl; simp only [h, hl, fnz, if_true]; have := (CheckLine_l0 l h8 hk (s := s) (o := o) (d := d) e2 e3 (by omega) l.length 0 0 0 (by omega) (by omega) (by omega)).1; simp only [List.drop_zero, Int.zero_add] at this; exact this
  ·simp only [h, hl, fnz, if_true, if_false]; exact Ev.some
 ·simp only [h, fnz, if_false]; exact Ev.some
theorem RCheckLine_ev {l : List S85} (hr : rsE l = 0) {s o d : Int} (hl : lE s o d = 0) : Ev (fun k => Rf_CheckLine.f k l s o d) (clV l s o d) := by
 obtain ⟨h1, h8, hk⟩ := readings_ok hr; obtain ⟨e1, e2, e3, _⟩ := lE_ok hl; have := (CheckLine_l0 l h8 hk (s := s) (o := o) (d := d) e2 e3 (by omega) l.length 0 0 0 (by omega) (by omega) (by omega)).2; simp only [List.drop_zero, Int.zero_add] at this; exact this
def dv : List Int → Nat
 | [] => 0
 | x :: r => x.toNat + 1000000000 * dv r
def DG (l : List Int) : Prop := ∀ x ∈ l, 0 ≤ x ∧ x < 1000000000
def dn (n : Nat) : List Int := if h : n = 0 then [] else ((n % 1000000000 : Nat) : Int) :: dn (n / 1000000000)
termination_by n
decreasing_by omega
theorem dn_zero : dn 0 = [] := by rw [dn]; simp
theorem dn_pos {n : Nat} (h : n ≠ 0) : dn n = ((n % 1000000000 : Nat) : Int) :: dn (n / 1000000000) := by rw [dn]; simp [h]
theorem DG_cons {x : Int} {r : List Int} : DG (x :: r) ↔ (0 ≤ x ∧ x < 1000000000) ∧ DG r :=
 ⟨fun h => ⟨h x List.mem_cons_self, fun y hy => h y (List.mem_cons_of_mem _ hy)⟩, fun h y hy => by rcases List.mem_cons.1 hy with rfl | hy; exact h.1; exact h.2 y hy⟩
theorem DG_nil : DG [] := fun x hx => by simp at hx
theorem DG_append {l m : List Int} (hl : DG l) (hm : DG m) : DG (l ++ m) := fun x hx => by
 rcases List.mem_append.1 hx with h | h
 ·exact hl x h
 ·exact hm x h
theorem dn_DG : ∀ n : Nat, DG (dn n) := fun n => by
 induction n using Nat.strongRecOn with
 | _ n ih =>
  by_cases h : n = 0
  ·subst h; rw [dn_zero]; exact DG_nil
  ·rw [dn_pos h, DG_cons]; exact ⟨by omega, ih _ (by omega)⟩
theorem dv_dn : ∀ n : Nat, dv (dn n) = n := fun n => by
 induction n using Nat.strongRecOn with
 | _ n ih =>
  by_cases h : n = 0
  ·subst h; rw [dn_zero]; rfl
  ·rw [dn_pos h, dv, ih _ (by omega)]
   omega
theorem dv_append : ∀ l m : List Int, dv (l ++ m) = dv l + 1000000000 ^ l.length * dv m
 | [], m => by simp [dv]
 | x :: r, m => by
  rw [List.cons_append, dv, dv, dv_append r m, List.length_cons, Nat.pow_succ, Nat.mul_add, Nat.mul_comm (1000000000 ^ r.length) 1000000000, Nat.mul_assoc]
  omega
theorem dv_last {m : List Int} {x : Int} (hx : 0 < x) : 0 < dv (m ++ [x]) := by
 rw [dv_append, dv, dv]; have : 0 < 1000000000 ^ m.length := Nat.pow_pos (by omega); have h2 := Nat.mul_pos this (show 0 < x.toNat + 1000000000 * 0 by omega)
 omega
theorem dn_last : ∀ (m : List Int) (x : Int), DG (m ++ [x]) → x ≠ 0 → dn (dv (m ++ [x])) = m ++ [x]
 | [], x, h, h0 => by
  have := h x (by simp); rw [List.nil_append, dv, dv, dn_pos (by omega), show (x.toNat + 1000000000 * 0) / 1000000000 = 0 by omega, dn_zero]
  congr 1
  omega
 | y :: m, x, h, h0 => by
  rw [List.cons_append, DG_cons] at h; have hx := h.2 x (by simp); have hp := dv_last (m := m) (x := x) (by omega); rw [List.cons_append, dv, dn_pos (by omega), show (y.toNat + 1000000000 * dv (m ++ [x])) / 1000000000 = dv (m ++ [x]) by omega, dn_last m x h.2 h0]
  congr 1
  omega
theorem dv_lt : ∀ {l : List Int}, DG l → dv l < 1000000000 ^ l.length
 | [], _ => by simp [dv]
 | x :: r, h => by
  rw [DG_cons] at h; have := dv_lt h.2; rw [dv, List.length_cons, Nat.pow_succ]
  omega
theorem dn_len {n L : Nat} (h : n < 1000000000 ^ L) : (dn n).length ≤ L := by
  induction L generalizing n with
  | zero => simp at h; subst h; rw [dn_zero]; exact Nat.le_refl _
  | succ L ih =>
    by_cases h0 : n = 0
    · subst h0; rw [dn_zero]; exact Nat.zero_le _
    · rw [dn_pos h0, List.length_cons]; have := ih (n := n / 1000000000) (by rw [Nat.pow_succ] at h; omega)
      omega
theorem dn_big {n : Nat} (h : n ≠ 0) : 1000000000 ^ (dn n).length ≤ 1000000000 * n := by
 induction n using Nat.strongRecOn with
 | _ n ih =>
  rw [dn_pos h, List.length_cons, Nat.pow_succ]
  by_cases h1 : n / 1000000000 = 0
  ·rw [h1, dn_zero]; simp; omega
  ·have := ih (n / 1000000000) (by omega) h1
   omega
theorem dn_nil {n : Nat} : (dn n).length = 0 ↔ n = 0 := by
 constructor
 ·intro h
  rcases Nat.eq_zero_or_pos n with h0 | h0
  ·exact h0
  ·rw [dn_pos (by omega)] at h; simp at h
 ·rintro rfl; rw [dn_zero]; rfl
theorem dn_mono {m n : Nat} (h : m ≤ n) : (dn m).length ≤ (dn n).length := dn_len (by have := dv_lt (dn_DG n); rw [dv_dn] at this; omega)
theorem rd_D {l : List Int} (h : DG l) (i : Nat) : 0 ≤ rd l (i : Int) ∧ rd l (i : Int) < 1000000000 := by
 rw [rd_nat, List.getD_eq_getElem?_getD]
 rcases Nat.lt_or_ge i l.length with hi | hi
 ·rw [List.getElem?_eq_getElem hi]; exact h _ (List.getElem_mem hi)
 ·rw [List.getElem?_eq_none hi]; simp
theorem rd_out {l : List Int} {i : Nat} (h : l.length ≤ i) : rd l (i : Int) = 0 := by
 rw [rd_nat, List.getD_eq_getElem?_getD, List.getElem?_eq_none h]; rfl
theorem dv_drop (l : List Int) (i : Nat) : dv (l.drop i) = (rd l (i : Int)).toNat + 1000000000 * dv (l.drop (i + 1)) := by
 rcases Nat.lt_or_ge i l.length with hi | hi
 ·rw [drop_rd hi, dv]
 ·rw [List.drop_eq_nil_of_le hi, List.drop_eq_nil_of_le (by omega), rd_out hi]; rfl
theorem take_rd {l : List Int} {n : Nat} (h : n < l.length) : l.take (n + 1) = l.take n ++ [rd l (n : Int)] := by
 rw [rd_nat, List.getD_eq_getElem?_getD, List.getElem?_eq_getElem h, List.take_add_one, List.getElem?_eq_getElem h]; rfl
theorem dv_take {l : List Int} {n : Nat} (h : n < l.length) : dv (l.take (n + 1)) = dv (l.take n) + 1000000000 ^ n * (rd l (n : Int)).toNat := by
 rw [take_rd h, dv_append, List.length_take, Nat.min_eq_left (by omega)]; rfl
theorem DG_take {l : List Int} (h : DG l) (n : Nat) : DG (l.take n) := fun x hx => h x (List.mem_of_mem_take hx)
theorem trimmed_l0 {l : List Int} (hD : DG l) (hl : l.length < 4611686018427387904) : ∀ n : Nat, n ≤ l.length → Ev (fun k => Bs_trimmed.l0 k l (n : Int)) (dn (dv (l.take n)))
 | 0, _ => by
  refine Ev.succ (f := fun k => Bs_trimmed.l0 k l ((0 : Nat) : Int)) ?_; simp only [Bs_trimmed.l0, show ¬ ((0 : Nat) : Int) > 0 by decide, show (0 : Int) ≤ ((0 : Nat) : Int) by decide, show ((0 : Nat) : Int) ≤ (l.length : Int) by omega, if_true, if_false]; rw [List.take_zero, dv, dn_zero]; simp only [Int.toNat_natCast, List.take_zero]; exact Ev.some
 | n + 1, h => by
  refine Ev.succ (f := fun k => Bs_trimmed.l0 k l ((n + 1 : Nat) : Int)) ?_; have w : wrap64 (((n + 1 : Nat) : Int) - 1) = (n : Int) := by unfold wrap64; omega
  have hd := rd_D hD n; simp only [Bs_trimmed.l0, show ((n + 1 : Nat) : Int) > 0 by omega, w, show (0 : Int) ≤ (n : Int) by omega, show (n : Int) < (l.length : Int) by omega, show (0 : Int) ≤ ((n + 1 : Nat) : Int) by omega, show ((n + 1 : Nat) : Int) ≤ (l.length : Int) by omega, if_true]
  by_cases h0 : rd l (n : Int) = 0
  ·simp only [h0, if_true]; have := trimmed_l0 hD hl n (by omega); rw [dv_take (by omega), h0]
   simpa using this
  ·simp only [h0, if_false]; rw [take_rd (by omega), dn_last _ _ (by rw [← take_rd (by omega)]; exact DG_take hD _) h0, ← take_rd (by omega)]; simp only [Int.toNat_natCast]; exact Ev.some
theorem trimmed_ev {l : List Int} (hD : DG l) (hl : l.length < 4611686018427387904) : Ev (fun k => Bs_trimmed.f k l) (dn (dv l)) := by
 have := trimmed_l0 hD hl l.length (Nat.le_refl _); rw [List.take_length] at this; exact this
theorem wideOf_ev (s : Int) {l : List Int} (hD : DG l) (hl : l.length < 4611686018427387904) : Ev (fun k => Bs_wideOf.f k s l) (if dv l = 0 then 0 else s, dn (dv l)) := by
 unfold Bs_wideOf.f; refine Ev.bind (trimmed_ev hD hl) ?_
 by_cases h : dv l = 0
 ·have : ((dn (dv l)).length : Int) = 0 := by rw [dn_nil.2 h]; rfl
  rw [if_pos h]; simp only [this, if_true]; exact Ev.some
 ·have : ¬ ((dn (dv l)).length : Int) = 0 := fun e => h (dn_nil.1 (by omega)); rw [if_neg h]; simp only [this, if_false]; exact Ev.some

def sg (z : Int) : Int := if z < 0 then -1 else if z = 0 then 0 else 1
def wd (z : Int) : Int × List Int := (sg z, dn z.natAbs)
theorem sg_in (z : Int) : sg z = -1 ∨ sg z = 0 ∨ sg z = 1 := by unfold sg; split <;> (try split) <;> simp
theorem sg_zero {z : Int} : sg z = 0 ↔ z = 0 := by unfold sg; split <;> (try split) <;> omega
theorem sg_neg {z : Int} (h : z < 0) : sg z = -1 := if_pos h
theorem sg_pos {z : Int} (h : 0 < z) : sg z = 1 := by unfold sg; rw [if_neg (by omega), if_neg (by omega)]
theorem wd_of (s : Int) (n : Nat) : (s = 1 ∨ s = -1) → ((if n = 0 then (0 : Int) else s), dn n) = wd (s * n) := by
 rintro (rfl | rfl)
 ·unfold wd sg
  by_cases h : n = 0
  ·subst h; simp
  ·simp [h] <;> omega
 ·unfold wd sg
  by_cases h : n = 0
  ·subst h; simp
  ·simp [h] <;> omega
theorem Size_abs {x : Int} (h : -9223372036854775807 ≤ x ∧ x ≤ 9223372036854775807) : Bs_Size.f x = some (x.natAbs : Int) := by
 rw [Size_eq, w64 (by omega)]
 congr 1
 unfold mx
 split <;> omega
theorem WideOf_l0 (s : Int) : ∀ (m : Nat) (x : Int) (acc : List Int), x.natAbs < 1000000000 ^ m → (-9223372036854775808 ≤ x ∧ x ≤ 9223372036854775807) → acc.length + m ≤ 3 → DG acc →
  Ev (fun k => Bs_WideOf.l0 k x s acc) (if dv (acc ++ dn x.natAbs) = 0 then 0 else s, dn (dv (acc ++ dn x.natAbs)))
 | 0, x, acc, hx, _, ha, hD => by
  obtain rfl : x = 0 := by simp at hx; omega
  refine Ev.succ (f := fun k => Bs_WideOf.l0 k 0 s acc) ?_; simp only [Bs_WideOf.l0, if_true, Int.natAbs_zero, dn_zero, List.append_nil]; exact Ev.bind (wideOf_ev s hD (by omega)) Ev.some
 | m + 1, x, acc, hx, hi, ha, hD => by
  refine Ev.succ (f := fun k => Bs_WideOf.l0 k x s acc) ?_
  by_cases h0 : x = 0
  ·subst h0; simp only [Bs_WideOf.l0, if_true, Int.natAbs_zero, dn_zero, List.append_nil]; exact Ev.bind (wideOf_ev s hD (by omega)) Ev.some
  ·have e1 : ((Int.tmod x 1000000000).natAbs : Int) = ((x.natAbs % 1000000000 : Nat) : Int) := by rw [Int.natAbs_tmod]; rfl
   have e2 : (Int.tdiv x 1000000000).natAbs = x.natAbs / 1000000000 := by rw [Int.natAbs_tdiv]; rfl
   have hm : -9223372036854775807 ≤ Int.tmod x 1000000000 ∧ Int.tmod x 1000000000 ≤ 9223372036854775807 := by omega
   have hq : -9223372036854775808 ≤ Int.tdiv x 1000000000 ∧ Int.tdiv x 1000000000 ≤ 9223372036854775807 := by omega
   simp only [Bs_WideOf.l0, h0, if_false]; rw [Size_abs hm, w64 hq, e1]; simp only [Option.bind_some, show acc.length < 17592186044416 by omega, if_true]; have := WideOf_l0 s m (Int.tdiv x 1000000000) (acc ++ [((x.natAbs % 1000000000 : Nat) : Int)]) (by rw [e2]; rw [Nat.pow_succ] at hx; omega) hq (by simp; omega) (DG_append hD (fun y hy => by simp at hy; omega)); rw [e2, List.append_assoc, List.singleton_append, ← dn_pos (show x.natAbs ≠ 0 by omega)] at this; exact this
theorem big3 {x : Int} (h : -9223372036854775808 ≤ x ∧ x ≤ 9223372036854775807) : x.natAbs < 1000000000 ^ 3 := by
 have : (1000000000 : Nat) ^ 3 = 1000000000000000000000000000 := by decide
 omega
theorem WideOf_ev {x : Int} (h : -9223372036854775808 ≤ x ∧ x ≤ 9223372036854775807) : Ev (fun k => Bs_WideOf.f k x) (wd x) := by
 unfold Bs_WideOf.f; have key : ∀ s : Int, Ev (fun k => Bs_WideOf.j0 k x s) (if x.natAbs = 0 then 0 else s, dn x.natAbs) := fun s => by
  refine Ev.succ (f := fun k => Bs_WideOf.j0 k x s) ?_; simp only [Bs_WideOf.j0]; have := WideOf_l0 s 3 x [] (big3 h) h (by simp) DG_nil; rw [List.nil_append, dv_dn] at this; exact this
 by_cases hx : x < 0
 ·simp only [hx, if_true]; have := key (-1); rw [wd_of _ _ (.inr rfl), show (-1 : Int) * (x.natAbs : Int) = x by omega] at this; exact this
 ·simp only [hx, if_false]; have := key 1; rw [wd_of _ _ (.inl rfl), show (1 : Int) * (x.natAbs : Int) = x by omega] at this; exact this
theorem WideNeg_eq (z : Int) : Bs_WideNeg.f (wd z).1 (wd z).2 = some (wd (-z)) := by
 unfold Bs_WideNeg.f wd; rw [Int.natAbs_neg]
 congr 2
 unfold sg wrap64
 split <;> (try split) <;> (try split) <;> (try split) <;> omega
theorem wideSize_eq (z : Int) : Bs_wideSize.f (wd z).1 (wd z).2 = some (wd (z.natAbs : Int)) := by
 unfold Bs_wideSize.f
 by_cases h : z < 0
 ·have : (wd z).1 < 0 := by show sg z < 0; unfold sg; rw [if_pos h]; decide
  simp only [this, if_true]; rw [WideNeg_eq]; simp only [Option.bind_some]; rw [show ((z.natAbs : Nat) : Int) = -z by omega]
 ·have : ¬ (wd z).1 < 0 := by show ¬ sg z < 0; unfold sg; rw [if_neg h]; split <;> decide
  simp only [this, if_false]; rw [show ((z.natAbs : Nat) : Int) = z by omega]
theorem digit_eq (l : List Int) (i : Nat) : Bs_digit.f l (i : Int) = some (rd l (i : Int)) := by
 unfold Bs_digit.f
 by_cases h : (i : Int) < (l.length : Int)
 ·simp only [h, show (0 : Int) ≤ (i : Int) by omega, if_true]
 ·simp only [h, if_false]; rw [rd_out (by omega)]

theorem addDigits_l0 {a b : List Int} (ha : DG a) (hb : DG b) (M : Nat) (hM : M < 17592186044410) (la : a.length ≤ M) (lb : b.length ≤ M) : ∀ (d i : Nat) (acc : List Int) (c : Int), M + 1 ≤ i + d → i ≤ M + 1 → acc.length = i → (0 ≤ c ∧ c ≤ 1) → (M < i → c = 0) →
  ∃ m, Ev (fun k => Bs_addDigits.l0 k a b acc c (i : Int)) (acc ++ m) ∧ DG m ∧ dv m = dv (a.drop i) + dv (b.drop i) + c.toNat ∧ m.length + i ≤ M + 1 := by
 intro d
 induction d with
 | zero =>
  intro i acc c h hi hacc hc h0; obtain rfl : c = 0 := h0 (by omega); refine ⟨[], ?_, DG_nil, ?_, by simp; omega⟩
  ·refine Ev.succ (f := fun k => Bs_addDigits.l0 k a b acc 0 (i : Int)) ?_; simp only [Bs_addDigits.l0, show ¬ (i : Int) < (a.length : Int) by omega, show ¬ (i : Int) < (b.length : Int) by omega, if_false, show decide ((0 : Int) > 0) = false by decide]; refine Ev.succ (f := fun k => Bs_addDigits.j1 k a b acc 0 (i : Int) false) ?_; simp only [Bs_addDigits.j1, Bool.false_eq_true, if_false, List.append_nil]; exact Ev.some
  ·rw [List.drop_eq_nil_of_le (by omega), List.drop_eq_nil_of_le (by omega)]; rfl
 | succ d ih =>
  intro i acc c h hi hacc hc h0; have hx := rd_D ha i; have hy := rd_D hb i; have hstop : ¬ ((i : Int) < (a.length : Int)) → ¬ ((i : Int) < (b.length : Int)) → ¬ c > 0 → ∃ m, Ev (fun k => Bs_addDigits.l0 k a b acc c (i : Int)) (acc ++ m) ∧ DG m ∧ dv m = dv (a.drop i) + dv (b.drop i) + c.toNat ∧ m.length + i ≤ M + 1 := fun h1 h2 h3 => by
   obtain rfl : c = 0 := by omega
   refine ⟨[], ?_, DG_nil, ?_, by simp; omega⟩
   ·refine Ev.succ (f := fun k => Bs_addDigits.l0 k a b acc 0 (i : Int)) ?_; simp only [Bs_addDigits.l0, h1, h2, if_false, show decide ((0 : Int) > 0) = false by decide]; refine Ev.succ (f := fun k => Bs_addDigits.j1 k a b acc 0 (i : Int) false) ?_; simp only [Bs_addDigits.j1, Bool.false_eq_true, if_false, List.append_nil]; exact Ev.some
   ·rw [List.drop_eq_nil_of_le (by omega), List.drop_eq_nil_of_le (by omega)]; rfl
  have hgo : (i : Int) < (a.length : Int) ∨ (i : Int) < (b.length : Int) ∨ c > 0 → ∃ m, Ev (fun k => Bs_addDigits.j1 k a b acc c (i : Int) true) (acc ++ m) ∧ DG m ∧ dv m = dv (a.drop i) + dv (b.drop i) + c.toNat ∧ m.length + i ≤ M + 1 := fun hg => by
   have hiM : i ≤ M := by
    rcases hg with h1 | h1 | h1
    ·omega
    ·omega
    ·rcases Nat.lt_or_ge M i with h2 | h2
     ·have := h0 h2; omega
     ·exact h2
   have hs : 0 ≤ rd a (i : Int) + rd b (i : Int) + c ∧ rd a (i : Int) + rd b (i : Int) + c ≤ 1999999999 := by omega
   have hl : M < i + 1 → rd a (i : Int) = 0 ∧ rd b (i : Int) = 0 := fun h1 => ⟨rd_out (by omega), rd_out (by omega)⟩; obtain ⟨m, hm, dm, vm, lm⟩ := ih (i + 1) (acc ++ [(rd a (i : Int) + rd b (i : Int) + c) % 1000000000]) ((rd a (i : Int) + rd b (i : Int) + c) / 1000000000) (by omega) (by omega) (by simp; omega) (by omega) (fun h1 => by have := hl h1; omega); refine ⟨(rd a (i : Int) + rd b (i : Int) + c) % 1000000000 :: m, ?_, DG_cons.2 ⟨by omega, dm⟩, ?_, by simp; omega⟩
   ·refine Ev.succ (f := fun k => Bs_addDigits.j1 k a b acc c (i : Int) true) ?_; simp only [Bs_addDigits.j1, if_true, digit_eq, Option.bind_some, show acc.length < 17592186044416 by omega, up (show i < 4611686018427387904 by omega)]; rw [w64 (n := rd a (i : Int) + rd b (i : Int)) (by omega), w64 (n := rd a (i : Int) + rd b (i : Int) + c) (by omega), Int.tdiv_eq_ediv_of_nonneg hs.1, Int.tmod_eq_emod_of_nonneg hs.1, w64 (by omega)]; rw [List.append_assoc, List.singleton_append] at hm; exact hm
   ·rw [dv, vm, dv_drop a i, dv_drop b i]
    omega
  by_cases h1 : (i : Int) < (a.length : Int)
  ·obtain ⟨m, hm, r⟩ := hgo (.inl h1); refine ⟨m, ?_, r⟩; refine Ev.succ (f := fun k => Bs_addDigits.l0 k a b acc c (i : Int)) ?_; simp only [Bs_addDigits.l0, h1, if_true]; exact hm
  ·by_cases h2 : (i : Int) < (b.length : Int)
   ·obtain ⟨m, hm, r⟩ := hgo (.inr (.inl h2)); refine ⟨m, ?_, r⟩; refine Ev.succ (f := fun k => Bs_addDigits.l0 k a b acc c (i : Int)) ?_; simp only [Bs_addDigits.l0, h1, h2, if_true, if_false]; exact hm
   ·by_cases h3 : c > 0
    ·obtain ⟨m, hm, r⟩ := hgo (.inr (.inr h3)); refine ⟨m, ?_, r⟩; refine Ev.succ (f := fun k => Bs_addDigits.l0 k a b acc c (i : Int)) ?_; simp only [Bs_addDigits.l0, h1, h2, if_false, show decide (c > 0) = true from decide_eq_true h3]; exact hm
    ·exact hstop h1 h2 h3
theorem addDigits_ev {a b : List Int} (ha : DG a) (hb : DG b) (M : Nat) (hM : M < 17592186044410) (la : a.length ≤ M) (lb : b.length ≤ M) : ∃ m, Ev (fun k => Bs_addDigits.f k a b) m ∧ DG m ∧ dv m = dv a + dv b ∧ m.length ≤ M + 1 := by
 obtain ⟨m, hm, dm, vm, lm⟩ := addDigits_l0 ha hb M hM la lb (M + 1) 0 [] 0 (by omega) (by omega) rfl (by decide) (by omega); exact ⟨m, by simpa [Bs_addDigits.f] using hm, dm, by simpa using vm, by omega⟩
theorem subDigits_l0 {a b : List Int} (ha : DG a) (hb : DG b) (la : a.length < 17592186044410) : ∀ (d i : Nat) (acc : List Int) (c : Int), i + d = a.length → acc.length = i → DG acc → (0 ≤ c ∧ c ≤ 1) → dv (b.drop i) + c.toNat ≤ dv (a.drop i) →
  ∃ m, Ev (fun k => Bs_subDigits.l0 k a b acc c (i : Int)) (dn (dv (acc ++ m))) ∧ dv m + dv (b.drop i) + c.toNat = dv (a.drop i) := by
 intro d
 induction d with
 | zero =>
  intro i acc c h hacc hD hc hle; rw [List.drop_eq_nil_of_le (show a.length ≤ i by omega)] at hle ⊢; rw [dv] at hle ⊢; refine ⟨[], ?_, by rw [dv]; omega⟩; refine Ev.succ (f := fun k => Bs_subDigits.l0 k a b acc c (i : Int)) ?_; simp only [Bs_subDigits.l0, show ¬ (i : Int) < (a.length : Int) by omega, if_false, List.append_nil]; exact Ev.bind (trimmed_ev hD (by omega)) Ev.some
 | succ d ih =>
  intro i acc c h hacc hD hc hle; have hx := rd_D ha i; have hy := rd_D hb i; rw [dv_drop a i, dv_drop b i] at hle ⊢; have hgo : ∀ x c' : Int, (0 ≤ x ∧ x < 1000000000) → (0 ≤ c' ∧ c' ≤ 1) → x - 1000000000 * c' = rd a (i : Int) - rd b (i : Int) - c →
    ∃ m, Ev (fun k => Bs_subDigits.l0 k a b (acc ++ [x]) c' ((i + 1 : Nat) : Int)) (dn (dv (acc ++ m))) ∧ dv m + ((rd b (i : Int)).toNat + 1000000000 * dv (b.drop (i + 1))) + c.toNat = (rd a (i : Int)).toNat + 1000000000 * dv (a.drop (i + 1)) := fun x c' hx' hc' he => by
   obtain ⟨m, hm, vm⟩ := ih (i + 1) (acc ++ [x]) c' (by omega) (by simp; omega) (DG_append hD (fun y hy => by simp at hy; omega)) hc' (by omega); refine ⟨x :: m, ?_, by rw [dv]; omega⟩; rw [List.append_assoc, List.singleton_append] at hm; exact hm
  by_cases hs : rd a (i : Int) - rd b (i : Int) - c < 0
  ·obtain ⟨m, hm, vm⟩ := hgo (rd a (i : Int) - rd b (i : Int) - c + 1000000000) 1 (by omega) (by omega) (by omega); refine ⟨m, ?_, vm⟩; refine Ev.succ (f := fun k => Bs_subDigits.l0 k a b acc c (i : Int)) ?_; simp only [Bs_subDigits.l0, show (i : Int) < (a.length : Int) by omega, show (0 : Int) ≤ (i : Int) by omega, if_true, digit_eq, Option.bind_some, show acc.length < 17592186044416 by omega, up (show i < 4611686018427387904 by omega)]; rw [w64 (n := rd a (i : Int) - rd b (i : Int)) (by omega), w64 (n := rd a (i : Int) - rd b (i : Int) - c) (by omega), w64 (n := rd a (i : Int) - rd b (i : Int) - c + 1000000000) (by omega)]; simp only [hs, if_true]; exact hm
  ·obtain ⟨m, hm, vm⟩ := hgo (rd a (i : Int) - rd b (i : Int) - c) 0 (by omega) (by omega) (by omega); refine ⟨m, ?_, vm⟩; refine Ev.succ (f := fun k => Bs_subDigits.l0 k a b acc c (i : Int)) ?_; simp only [Bs_subDigits.l0, show (i : Int) < (a.length : Int) by omega, show (0 : Int) ≤ (i : Int) by omega, if_true, digit_eq, Option.bind_some, show acc.length < 17592186044416 by omega, up (show i < 4611686018427387904 by omega)]; rw [w64 (n := rd a (i : Int) - rd b (i : Int)) (by omega), w64 (n := rd a (i : Int) - rd b (i : Int) - c) (by omega)]; simp only [hs, if_false]; exact hm
theorem subDigits_ev {a b : List Int} (ha : DG a) (hb : DG b) (la : a.length < 17592186044410) (h : dv b ≤ dv a) : Ev (fun k => Bs_subDigits.f k a b) (dn (dv a - dv b)) := by
 obtain ⟨m, hm, vm⟩ := subDigits_l0 ha hb la a.length 0 [] 0 (by omega) rfl DG_nil (by decide) (by simpa using h); simp only [List.drop_zero, List.nil_append] at hm vm; rw [show dv m = dv a - dv b by simp at vm; omega] at hm; exact hm

def cmpN (m n : Nat) : Int := if m < n then -1 else if n < m then 1 else 0
theorem pow_lt {p q x y P : Nat} (hp : p < P) (h : x < y) : p + P * x < q + P * y := by
 have := Nat.mul_le_mul_left P (show x + 1 ≤ y by omega); rw [Nat.mul_add, Nat.mul_one] at this
 omega
theorem cmpDigits_l0 {a b : List Int} (ha : DG a) (hb : DG b) (hab : a.length = b.length) (hl : a.length < 4611686018427387904) : ∀ n : Nat, n ≤ a.length →
  Ev (fun k => Bs_cmpDigits.l0 k a b ((n : Int) - 1)) (cmpN (dv (a.take n)) (dv (b.take n)))
 | 0, _ => by
  refine Ev.succ (f := fun k => Bs_cmpDigits.l0 k a b (((0 : Nat) : Int) - 1)) ?_; simp only [Bs_cmpDigits.l0, show ¬ (((0 : Nat) : Int) - 1) ≥ 0 by decide, if_false, List.take_zero]; exact Ev.some
 | n + 1, h => by
  refine Ev.succ (f := fun k => Bs_cmpDigits.l0 k a b (((n + 1 : Nat) : Int) - 1)) ?_; have hx := rd_D ha n; have hy := rd_D hb n; have pa := dv_lt (DG_take ha n); have pb := dv_lt (DG_take hb n); rw [List.length_take, Nat.min_eq_left (by omega)] at pa pb; simp only [show ((n + 1 : Nat) : Int) - 1 = (n : Int) by omega]; simp only [Bs_cmpDigits.l0, show (n : Int) ≥ 0 by omega, show (0 : Int) ≤ (n : Int) by omega, show (n : Int) < (a.length : Int) by omega, show (n : Int) < (b.length : Int) by omega, if_true]; rw [dv_take (by omega), dv_take (by omega)]
  by_cases h1 : rd a (n : Int) < rd b (n : Int)
  ·simp only [h1, if_true]; have := pow_lt (q := dv (b.take n)) pa (show (rd a (n : Int)).toNat < (rd b (n : Int)).toNat by omega); rw [cmpN, if_pos this]; exact Ev.some
  ·by_cases h2 : rd a (n : Int) > rd b (n : Int)
   ·simp only [h1, h2, if_true, if_false]; have := pow_lt (q := dv (a.take n)) pb (show (rd b (n : Int)).toNat < (rd a (n : Int)).toNat by omega); rw [cmpN, if_neg (by omega), if_pos this]; exact Ev.some
   ·simp only [h1, h2, if_false]; have ih := cmpDigits_l0 ha hb hab hl n (by omega); rw [w64 (by omega)]; have e : rd a (n : Int) = rd b (n : Int) := by omega
    rw [e]; have : cmpN (dv (a.take n) + 1000000000 ^ n * (rd b (n : Int)).toNat) (dv (b.take n) + 1000000000 ^ n * (rd b (n : Int)).toNat) = cmpN (dv (a.take n)) (dv (b.take n)) := by
     unfold cmpN; simp only [Nat.add_lt_add_iff_right]
    rw [this]; exact ih
theorem cmpDigits_ev {m n : Nat} (hm : (dn m).length < 4611686018427387904) : Ev (fun k => Bs_cmpDigits.f k (dn m) (dn n)) (cmpN m n) := by
 have bm := dv_lt (dn_DG m); have bn := dv_lt (dn_DG n); rw [dv_dn] at bm bn; have short : ∀ {x y : Nat}, (dn x).length < (dn y).length → x < 1000000000 ^ (dn x).length → x < y := fun {x y} h hx => by
  have hy : y ≠ 0 := fun e => by subst e; rw [dn_zero] at h; simp at h
  have b := dn_big hy; have p := Nat.pow_le_pow_right (show 1000000000 > 0 by decide) (show (dn x).length + 1 ≤ (dn y).length from h); rw [Nat.pow_succ] at p
  omega
 unfold Bs_cmpDigits.f
 by_cases h : ((dn m).length : Int) = ((dn n).length : Int)
 ·simp only [h, if_true]; have := cmpDigits_l0 (dn_DG m) (dn_DG n) (by omega) hm (dn m).length (Nat.le_refl _); rw [List.take_length, show (dn m).length = (dn n).length by omega, List.take_length, dv_dn, dv_dn] at this; rw [w64 (by omega)]; exact this
 ·by_cases h1 : ((dn m).length : Int) < ((dn n).length : Int)
  ·simp only [h, h1, if_true, if_false]; have := short (x := m) (y := n) (by omega) bm; rw [cmpN, if_pos this]; exact Ev.some
  ·simp only [h, h1, if_false]; have := short (x := n) (y := m) (by omega) bn; rw [cmpN, if_neg (by omega), if_pos this]; exact Ev.some
theorem WideAdd_ev {a b : Int} (ha : (dn a.natAbs).length < 1000000000) (hb : (dn b.natAbs).length < 1000000000) : Ev (fun k => Bs_WideAdd.f k (wd a).1 (wd a).2 (wd b).1 (wd b).2) (wd (a + b)) := by
 unfold Bs_WideAdd.f
 by_cases h1 : a = 0
 ·subst h1; rw [Int.zero_add]; simp only [show (wd 0).1 = 0 from rfl, if_true]; exact Ev.some
 ·have s1 : ¬ (wd a).1 = 0 := fun e => h1 (sg_zero.1 e)
  by_cases h2 : b = 0
  ·subst h2; rw [Int.add_zero]; simp only [s1, show (wd 0).1 = 0 from rfl, if_true, if_false]; exact Ev.some
  ·have s2 : ¬ (wd b).1 = 0 := fun e => h2 (sg_zero.1 e); simp only [s1, s2, if_false]
   by_cases h3 : (wd a).1 = (wd b).1
   ·simp only [h3, if_true]; obtain ⟨m, hm, dm, vm, lm⟩ := addDigits_ev (dn_DG a.natAbs) (dn_DG b.natAbs) 1000000000 (by omega) (by omega) (by omega); refine Ev.bind hm ?_; have hw := wideOf_ev (wd b).1 dm (by omega); rw [vm, dv_dn, dv_dn, wd_of _ _ (by rcases sg_in b with e | e | e; exact .inr e; exact absurd e s2; exact .inl e)] at hw; refine Ev.bind hw ?_; have : (wd b).1 * ((a.natAbs + b.natAbs : Nat) : Int) = a + b := by
     have h4 : sg a = sg b := h3
     show sg b * _ = _
     rcases Int.lt_or_lt_of_ne h1 with pa | pa <;> rcases Int.lt_or_lt_of_ne h2 with pb | pb
     ·rw [sg_neg pb]; omega
     ·rw [sg_neg pa, sg_pos pb] at h4; omega
     ·rw [sg_pos pa, sg_neg pb] at h4; omega
     ·rw [sg_pos pb]; omega
    rw [this]; exact Ev.some
   ·simp only [h3, if_false]; refine Ev.bind (cmpDigits_ev (by omega)) ?_; have hopp : (wd a).1 = 1 ∧ (wd b).1 = -1 ∧ 0 < a ∧ b < 0 ∨ (wd a).1 = -1 ∧ (wd b).1 = 1 ∧ a < 0 ∧ 0 < b := by
     have h4 : ¬ sg a = sg b := h3
     show sg a = 1 ∧ sg b = -1 ∧ _ ∨ sg a = -1 ∧ sg b = 1 ∧ _
     rcases Int.lt_or_lt_of_ne h1 with pa | pa <;> rcases Int.lt_or_lt_of_ne h2 with pb | pb
     ·exact absurd ((sg_neg pa).trans (sg_neg pb).symm) h4
     ·exact .inr ⟨sg_neg pa, sg_pos pb, pa, pb⟩
     ·exact .inl ⟨sg_pos pa, sg_neg pb, pa, pb⟩
     ·exact absurd ((sg_pos pa).trans (sg_pos pb).symm) h4
    rcases Nat.lt_trichotomy a.natAbs b.natAbs with hlt | heq | hgt
    ·have c : cmpN a.natAbs b.natAbs = -1 := if_pos hlt; simp only [c, show ¬ (-1 : Int) = 0 by decide, show ¬ (-1 : Int) > 0 by decide, if_false]; have hs := subDigits_ev (dn_DG b.natAbs) (dn_DG a.natAbs) (by omega) (by rw [dv_dn, dv_dn]; omega); rw [dv_dn, dv_dn] at hs; refine Ev.bind hs ?_; have hw := wideOf_ev (wd b).1 (dn_DG (b.natAbs - a.natAbs)) (by have := dn_mono (show b.natAbs - a.natAbs ≤ b.natAbs by omega); omega); rw [dv_dn, wd_of _ _ (by rcases hopp with e | e <;> simp [e.2.1]), show (wd b).1 * ((b.natAbs - a.natAbs : Nat) : Int) = a + b by rcases hopp with e | e <;> rw [e.2.1] <;> omega] at hw
     exact Ev.bind hw Ev.some
    ·have c : cmpN a.natAbs b.natAbs = 0 := by unfold cmpN; rw [if_neg (by omega), if_neg (by omega)]
     simp only [c, if_true]; rw [show a + b = 0 by omega, show wd 0 = (0, []) by unfold wd sg; simp [dn_zero]]; exact Ev.some
    ·have c : cmpN a.natAbs b.natAbs = 1 := by unfold cmpN; rw [if_neg (by omega), if_pos hgt]
     simp only [c, show ¬ (1 : Int) = 0 by decide, show (1 : Int) > 0 by decide, if_true, if_false]; have hs := subDigits_ev (dn_DG a.natAbs) (dn_DG b.natAbs) (by omega) (by rw [dv_dn, dv_dn]; omega); rw [dv_dn, dv_dn] at hs; refine Ev.bind hs ?_; have hw := wideOf_ev (wd a).1 (dn_DG (a.natAbs - b.natAbs)) (by have := dn_mono (show a.natAbs - b.natAbs ≤ a.natAbs by omega); omega); rw [dv_dn, wd_of _ _ (by rcases hopp with e | e <;> simp [e.1]), show (wd a).1 * ((a.natAbs - b.natAbs : Nat) : Int) = a + b by rcases hopp with e | e <;> rw [e.1] <;> omega] at hw
     exact Ev.bind hw Ev.some
theorem WideSub_ev {a b : Int} (ha : (dn a.natAbs).length < 1000000000) (hb : (dn b.natAbs).length < 1000000000) : Ev (fun k => Bs_WideSub.f k (wd a).1 (wd a).2 (wd b).1 (wd b).2) (wd (a - b)) := by
 unfold Bs_WideSub.f; rw [WideNeg_eq]; simp only [Option.bind_some]; exact Ev.bind (WideAdd_ev ha (by rw [Int.natAbs_neg]; exact hb)) Ev.some
theorem DG_set {l : List Int} (h : DG l) (p : Nat) {x : Int} (hx : 0 ≤ x ∧ x < 1000000000) : DG (l.set p x) := fun y hy => by
 rcases List.mem_or_eq_of_mem_set hy with h' | rfl
 ·exact h y h'
 ·exact hx
theorem rd_set {l : List Int} {p : Nat} (hp : p < l.length) (x : Int) (q : Nat) : rd (l.set p x) (q : Int) = if p = q then x else rd l (q : Int) := by
 rw [rd_nat, rd_nat, List.getD_eq_getElem?_getD, List.getD_eq_getElem?_getD, List.getElem?_set]
 by_cases h : p = q
 ·subst h; simp [hp]
 ·simp [h]
theorem dv_set : ∀ {l : List Int} {p : Nat}, p < l.length → ∀ x : Int, dv (l.set p x) + 1000000000 ^ p * (rd l (p : Int)).toNat = dv l + 1000000000 ^ p * x.toNat
 | [], p, h, _ => by simp at h
 | y :: r, 0, _, x => by
  rw [rd_nat]; simp only [List.set_cons_zero, dv, List.getD_cons_zero, Nat.pow_zero, Nat.one_mul]
  omega
 | y :: r, p + 1, h, x => by
  have ih := dv_set (l := r) (p := p) (by simpa using h) x; rw [rd_nat] at ih ⊢; simp only [List.set_cons_succ, dv, List.getD_cons_succ, Nat.pow_succ] at ih ⊢; rw [Nat.mul_comm (1000000000 ^ p) 1000000000, Nat.mul_assoc, Nat.mul_assoc]
  omega
theorem mul9 {x y : Int} (hx : 0 ≤ x ∧ x < 1000000000) (hy : 0 ≤ y ∧ y < 1000000000) : 0 ≤ x * y ∧ x * y ≤ 999999998000000001 :=
 ⟨Int.mul_nonneg hx.1 hy.1, by have := Int.mul_le_mul (show x ≤ 999999999 by omega) (show y ≤ 999999999 by omega) hy.1 (by omega); omega⟩
theorem ring1 {P Q o t c c1 u E E' x x1 y a b : Nat} (h1 : x1 + P * Q * o = x + P * Q * t) (h2 : t + 1000000000 * c1 = o + u + c) (hu : u = a * b) (h3 : E = b + 1000000000 * E') (h4 : y = x1 + P * (a * (Q * 1000000000 * E')) + P * (Q * 1000000000) * c1) : y = x + P * (a * (Q * E)) + P * Q * c := by
 have h5 := congrArg (fun z => P * Q * z) h2; subst h3 hu h4; simp only [Nat.mul_add, Nat.mul_assoc, Nat.mul_comm, Nat.mul_left_comm] at h1 h5 ⊢
 omega
theorem in3 {x p c : Int} (ho : 0 ≤ x ∧ x < 1000000000) (hm : 0 ≤ p ∧ p ≤ 999999998000000001) (hc : 0 ≤ c ∧ c < 1000000000) : (-9223372036854775808 ≤ p ∧ p ≤ 9223372036854775807) ∧ (-9223372036854775808 ≤ x + p ∧ x + p ≤ 9223372036854775807) ∧ (-9223372036854775808 ≤ x + p + c ∧ x + p + c ≤ 9223372036854775807) := by omega
theorem mul_l1 {a b : List Int} (ha : DG a) (hb : DG b) (sa sb : Int) (hl : a.length + b.length < 1000000000000) (i : Nat) (hi : i < a.length) (r : Int × List Int) : ∀ (d k : Nat) (out : List Int) (c : Int), k + d = b.length → DG out → out.length = a.length + b.length + 1 → (0 ≤ c ∧ c < 1000000000) → (∀ p : Nat, i + b.length ≤ p → rd out (p : Int) = 0) →
  (∀ out', DG out' → out'.length = a.length + b.length + 1 → (∀ p : Nat, i + 1 + b.length ≤ p → rd out' (p : Int) = 0) → dv out' = dv out + 1000000000 ^ i * ((rd a (i : Int)).toNat * (1000000000 ^ k * dv (b.drop k))) + 1000000000 ^ i * 1000000000 ^ k * c.toNat → Ev (fun z => Bs_WideMul.l0 z out' ((i + 1 : Nat) : Int) sa a sb b) r) →
  Ev (fun z => Bs_WideMul.l1 z out (i : Int) c (k : Int) sa a sb b) r := by
 intro d
 induction d with
 | zero =>
  intro k out c hk hD hlen hc hz hnext; obtain rfl : k = b.length := by omega
  refine Ev.succ (f := fun z => Bs_WideMul.l1 z out (i : Int) c (b.length : Int) sa a sb b) ?_; have w : wrap64 ((i : Int) + (b.length : Int)) = ((i + b.length : Nat) : Int) := by unfold wrap64; omega
  simp only [Bs_WideMul.l1, Int.lt_irrefl, if_false, w, show (0 : Int) ≤ ((i + b.length : Nat) : Int) by omega, show ((i + b.length : Nat) : Int) < (out.length : Int) by omega, if_true, up (show i < 4611686018427387904 by omega), Int.toNat_natCast]; rw [hz (i + b.length) (Nat.le_refl _), w64 (by omega), Int.zero_add]; have hset := dv_set (l := out) (p := i + b.length) (by omega) c; rw [hz (i + b.length) (Nat.le_refl _)] at hset; refine hnext _ (DG_set hD _ hc) (by rw [List.length_set]; exact hlen) (fun p hp => ?_) ?_
  ·rw [rd_set (by omega), if_neg (by omega)]; exact hz p (by omega)
  ·rw [List.drop_length, dv, Nat.mul_zero, Nat.mul_zero, Nat.mul_zero, Nat.add_zero, ← Nat.pow_add]
   simpa using hset
 | succ d ih =>
  intro k out c hk hD hlen hc hz hnext; refine Ev.succ (f := fun z => Bs_WideMul.l1 z out (i : Int) c (k : Int) sa a sb b) ?_; have w : wrap64 ((i : Int) + (k : Int)) = ((i + k : Nat) : Int) := by unfold wrap64; omega
  simp only [Bs_WideMul.l1, show (k : Int) < (b.length : Int) by omega, w, show (0 : Int) ≤ ((i + k : Nat) : Int) by omega, show ((i + k : Nat) : Int) < (out.length : Int) by omega, show (0 : Int) ≤ (i : Int) by omega, show (i : Int) < (a.length : Int) by omega, show (0 : Int) ≤ (k : Int) by omega, if_true, up (show k < 4611686018427387904 by omega), Int.toNat_natCast]; have ho := rd_D hD (i + k); have hx := rd_D ha i; have hy := rd_D hb k; have hm := mul9 hx hy; generalize hp : rd a (i : Int) * rd b (k : Int) = p at hm ⊢; have hs : 0 ≤ rd out ((i + k : Nat) : Int) + p + c := by omega
  have hin := in3 ho hm hc; rw [w64 (n := p) hin.1, w64 (n := rd out ((i + k : Nat) : Int) + p) hin.2.1, w64 (n := rd out ((i + k : Nat) : Int) + p + c) hin.2.2, Int.tmod_eq_emod_of_nonneg hs, Int.tdiv_eq_ediv_of_nonneg hs, w64 (by omega)]; generalize hS : rd out ((i + k : Nat) : Int) + p + c = s at hs ⊢; have hset := dv_set (l := out) (p := i + k) (by omega) (s % 1000000000); refine ih (k + 1) _ _ (by omega) (DG_set hD _ (by omega)) (by rw [List.length_set]; exact hlen) (by omega) (fun q hq => ?_) (fun out' h1 h2 h3 h4 => hnext out' h1 h2 h3 ?_)
  ·rw [rd_set (by omega), if_neg (by omega)]; exact hz q hq
  ·rw [Nat.pow_succ] at h4; rw [Nat.pow_add] at hset; refine ring1 hset (c1 := (s / 1000000000).toNat) (u := p.toNat) (by omega) ?_ (dv_drop b k) h4; rw [← hp, Int.toNat_mul hx.1 hy.1]
theorem mul_l0 {a b : List Int} (ha : DG a) (hb : DG b) (sa sb : Int) (hl : a.length + b.length < 1000000000000) : ∀ (d i : Nat) (out : List Int), i + d = a.length → DG out → out.length = a.length + b.length + 1 → (∀ p : Nat, i + b.length ≤ p → rd out (p : Int) = 0) → dv out + 1000000000 ^ i * (dv (a.drop i) * dv b) = dv a * dv b →
  Ev (fun z => Bs_WideMul.l0 z out (i : Int) sa a sb b) (if dv a * dv b = 0 then 0 else wrap64 (sa * sb), dn (dv a * dv b)) := by
 intro d
 induction d with
 | zero =>
  intro i out hi hD hlen hz hv; refine Ev.succ (f := fun z => Bs_WideMul.l0 z out (i : Int) sa a sb b) ?_; simp only [Bs_WideMul.l0, show ¬ (i : Int) < (a.length : Int) by omega, if_false]; rw [List.drop_eq_nil_of_le (show a.length ≤ i by omega), dv, Nat.zero_mul, Nat.mul_zero, Nat.add_zero] at hv; have := wideOf_ev (wrap64 (sa * sb)) hD (by omega); rw [hv] at this; exact Ev.bind this Ev.some
 | succ d ih =>
  intro i out hi hD hlen hz hv; refine Ev.succ (f := fun z => Bs_WideMul.l0 z out (i : Int) sa a sb b) ?_; simp only [Bs_WideMul.l0, show (i : Int) < (a.length : Int) by omega, if_true]; refine mul_l1 ha hb sa sb hl i (by omega) _ b.length 0 out 0 (by omega) hD hlen (by decide) hz (fun out' h1 h2 h3 h4 => ih (i + 1) out' (by omega) h1 h2 h3 ?_); rw [← hv, h4, dv_drop a i, List.drop_zero, Nat.pow_succ]; simp only [Nat.mul_add, Nat.add_mul, Nat.mul_assoc, Nat.mul_comm, Nat.mul_left_comm, Nat.pow_zero, Nat.one_mul, Nat.mul_one, Int.toNat_zero, Nat.mul_zero, Nat.add_zero, Nat.zero_mul]
  omega
theorem sg_mul (a b : Int) : sg (a * b) = if a.natAbs * b.natAbs = 0 then 0 else sg a * sg b := by
 by_cases ha : a = 0
 ·subst ha; simp [sg]
 ·by_cases hb : b = 0
  ·subst hb; simp [sg]
  ·rw [if_neg (Nat.mul_ne_zero (by omega) (by omega))]
   rcases Int.lt_or_lt_of_ne ha with pa | pa <;> rcases Int.lt_or_lt_of_ne hb with pb | pb
   ·rw [sg_neg pa, sg_neg pb, sg_pos (Int.mul_pos_of_neg_of_neg pa pb)]; rfl
   ·rw [sg_neg pa, sg_pos pb, sg_neg (Int.mul_neg_of_neg_of_pos pa pb)]; rfl
   ·rw [sg_pos pa, sg_neg pb, sg_neg (Int.mul_neg_of_pos_of_neg pa pb)]; rfl
   ·rw [sg_pos pa, sg_pos pb, sg_pos (Int.mul_pos pa pb)]; rfl
theorem WideMul_ev {a b : Int} (hl : (dn a.natAbs).length + (dn b.natAbs).length < 1000000000000) : Ev (fun k => Bs_WideMul.f k (wd a).1 (wd a).2 (wd b).1 (wd b).2) (wd (a * b)) := by
  unfold Bs_WideMul.f; have w : wrap64 (wrap64 (((dn a.natAbs).length : Int) + ((dn b.natAbs).length : Int)) + 1) = (((dn a.natAbs).length + (dn b.natAbs).length + 1 : Nat) : Int) := by
    rw [w64 (n := ((dn a.natAbs).length : Int) + ((dn b.natAbs).length : Int)) (by omega), w64 (by omega)]; omega
  have w' : wrap64 (wrap64 (((wd a).2.length : Int) + ((wd b).2.length : Int)) + 1) = (((dn a.natAbs).length + (dn b.natAbs).length + 1 : Nat) : Int) := w; simp only [w', show (0 : Int) ≤ (((dn a.natAbs).length + (dn b.natAbs).length + 1 : Nat) : Int) by omega, Int.toNat_natCast, show (dn a.natAbs).length + (dn b.natAbs).length + 1 ≤ 35184372088832 by omega, if_true]; have hz : ∀ (m : Nat) (p : Nat), rd (List.replicate m 0) (p : Int) = 0 := fun m p => by
    rw [rd_nat, List.getD_eq_getElem?_getD, List.getElem?_replicate]
    split <;> rfl
  have hd : DG (List.replicate ((dn a.natAbs).length + (dn b.natAbs).length + 1) 0) := fun x hx => by rw [(List.mem_replicate.1 hx).2]; decide
  have hv : ∀ m : Nat, dv (List.replicate m 0) = 0 := fun m => by
    induction m with
    | zero => rfl
    | succ m ih => rw [List.replicate_succ, dv, ih]; rfl
  have := mul_l0 (dn_DG a.natAbs) (dn_DG b.natAbs) (wd a).1 (wd b).1 hl (dn a.natAbs).length 0 _ (by omega) hd (by simp) (fun p _ => hz _ p) (by rw [hv]; simp); rw [dv_dn, dv_dn] at this; have e : wd (a * b) = (if a.natAbs * b.natAbs = 0 then 0 else wrap64 ((wd a).1 * (wd b).1), dn (a.natAbs * b.natAbs)) := by
    unfold wd; dsimp only; rw [Int.natAbs_mul, sg_mul, w64 (n := sg a * sg b) (by rcases sg_in a with e | e | e <;> rcases sg_in b with e' | e' | e' <;> rw [e, e'] <;> decide)]
  rw [e]; exact this

theorem le_div {b m L : Nat} (hb : 0 < b) : cmpN (b * m) L ≤ 0 ↔ m ≤ L / b := by
 rw [Nat.le_div_iff_mul_le hb, Nat.mul_comm m b]; unfold cmpN
 split
 ·simp; omega
 ·split
  ·simp; omega
  ·simp; omega
theorem floor_l1 {b L : Nat} (hb : 0 < b) (hlb : (dn b).length < 1000000) (q : List Int) (i : Int) (sa : Int) (da : List Int) (sb : Int) (r : Int × List Int)
    (hend : Ev (fun z => Bs_WideFloor.l1 z q (dn L) i ((L / b : Nat) : Int) ((L / b : Nat) : Int) sa da sb (dn b)) r) : ∀ (d lo hi : Nat), hi - lo ≤ d → lo ≤ L / b → L / b ≤ hi → hi ≤ 999999999 →
    Ev (fun z => Bs_WideFloor.l1 z q (dn L) i (lo : Int) (hi : Int) sa da sb (dn b)) r := by
  intro d
  induction d with
  | zero =>
    intro lo hi h h1 h2 h3; obtain rfl : lo = L / b := by omega
    obtain rfl : hi = L / b := by omega
    exact hend
  | succ d ih =>
    intro lo hi h h1 h2 h3
    by_cases hlt : lo < hi
    · obtain ⟨m, hm⟩ : ∃ m : Nat, m = (lo + hi + 1) / 2 := ⟨_, rfl⟩; refine Ev.succ (f := fun z => Bs_WideFloor.l1 z q (dn L) i (lo : Int) (hi : Int) sa da sb (dn b)) ?_; have w : wrap64 (Int.tdiv (wrap64 (wrap64 ((lo : Int) + (hi : Int)) + 1)) 2) = (m : Int) := by
        rw [w64 (n := (lo : Int) + (hi : Int)) (by omega), w64 (n := (lo : Int) + (hi : Int) + 1) (by omega), Int.tdiv_eq_ediv_of_nonneg (by omega), w64 (by omega)]
        omega
      simp only [Bs_WideFloor.l1, show (lo : Int) < (hi : Int) by omega, if_true, w, w64 (n := (m : Int) - 1) (by omega)]; have h1b := wideOf_ev 1 (dn_DG b) (by omega); rw [dv_dn, if_neg (show ¬ b = 0 by omega)] at h1b; refine Ev.bind h1b ?_; refine Ev.bind (WideOf_ev (x := (m : Int)) (by omega)) ?_; have hlm : (dn ((m : Int)).natAbs).length ≤ 2 := dn_len (by have : (1000000000 : Nat) ^ 2 = 1000000000000000000 := (by decide); omega)
      have hmul := WideMul_ev (a := (b : Int)) (b := (m : Int)) (by simp only [Int.natAbs_natCast] at hlm ⊢; omega); rw [show wd (b : Int) = (1, dn b) by unfold wd; rw [sg_pos (by omega), Int.natAbs_natCast]] at hmul; refine Ev.bind hmul ?_; have e2 : (wd ((b : Int) * (m : Int))).2 = dn (b * m) := by unfold wd; dsimp only; rw [Int.natAbs_mul, Int.natAbs_natCast, Int.natAbs_natCast]
      rw [e2]; have hlen : (dn (b * m)).length < 4611686018427387904 := by
        have h4 : (dn (b * m)).length ≤ (dn b).length + 2 := dn_len (by
          rw [Nat.pow_add]; have p1 := dv_lt (dn_DG b); rw [dv_dn] at p1; exact Nat.mul_lt_mul'' p1 (by have : (1000000000 : Nat) ^ 2 = 1000000000000000000 := (by decide); omega))
        omega
      refine Ev.bind (cmpDigits_ev hlen) ?_
      by_cases hc : cmpN (b * m) L ≤ 0
      · simp only [hc, if_true]; have := (le_div hb).1 hc; exact ih m hi (by omega) this h2 h3
      · simp only [hc, if_false]; have : ¬ m ≤ L / b := fun e => hc ((le_div hb).2 e); rw [show (m : Int) - 1 = ((m - 1 : Nat) : Int) by omega]; exact ih lo (m - 1) (by omega) h1 (by omega) (by omega)
    · obtain rfl : lo = L / b := by omega
      obtain rfl : hi = L / b := by omega
      exact hend
theorem ring2 {A b B Bn dq L L1 lo dt an : Nat} (h : A = dq * b * (Bn * B) + L * (Bn * B) + (dt + Bn * an)) (h1 : L1 = an + B * L) (h2 : b * lo ≤ L1) : A = (lo + B * dq) * b * Bn + (L1 - b * lo) * Bn + dt := by
 obtain ⟨e, rfl⟩ : ∃ e, L1 = b * lo + e := ⟨L1 - b * lo, by omega⟩; rw [Nat.add_sub_cancel_left]; have h5 := congrArg (fun z => Bn * z) h1; simp only [Nat.mul_add, Nat.add_mul, Nat.mul_assoc, Nat.mul_comm, Nat.mul_left_comm] at h h5 ⊢
 omega
theorem floor_l0 {a : List Int} (ha : DG a) {b : Nat} (hb : 0 < b) (hla : a.length < 1000000) (hlb : (dn b).length < 1000000) (sa sb : Int) (r : Int × List Int)
    (hend : ∀ (q : List Int), DG q → q.length = a.length → dv q = dv a / b → Ev (fun z => Bs_WideFloor.l0 z q (dn (dv a % b)) (-1) sa a sb (dn b)) r) :
    ∀ (n : Nat) (q : List Int) (L : Nat), n ≤ a.length → q.length = a.length → DG q → L < b → dv a = dv (q.drop n) * b * 1000000000 ^ n + L * 1000000000 ^ n + dv (a.take n) →
    Ev (fun z => Bs_WideFloor.l0 z q (dn L) ((n : Int) - 1) sa a sb (dn b)) r := by
  intro n
  induction n with
  | zero =>
    intro q L hn hq hD hL hv; rw [List.drop_zero, Nat.pow_zero, Nat.mul_one, Nat.mul_one, List.take_zero, dv, Nat.add_zero, Nat.mul_comm] at hv; have h1 : dv q = dv a / b := by rw [hv, Nat.mul_add_div hb, Nat.div_eq_of_lt hL, Nat.add_zero]
    have h2 : dv a % b = L := by rw [hv, Nat.mul_add_mod, Nat.mod_eq_of_lt hL]
    have := hend q hD hq h1; rw [h2] at this; exact this
  | succ n ih =>
    intro q L hn hq hD hL hv; have hx := rd_D ha n; have hlL : (dn L).length ≤ (dn b).length := dn_mono (by omega); rw [show ((n + 1 : Nat) : Int) - 1 = (n : Int) by omega]; refine Ev.succ (f := fun z => Bs_WideFloor.l0 z q (dn L) (n : Int) sa a sb (dn b)) ?_; simp only [Bs_WideFloor.l0, show (n : Int) ≥ 0 by omega, show (0 : Int) ≤ (n : Int) by omega, show (n : Int) < (a.length : Int) by omega, if_true, Option.bind_some]; simp only [List.length_cons, List.length_nil, show 0 + 1 + (dn L).length < 17592186044416 by omega, if_true]; have hd1 : DG ([rd a (n : Int)] ++ dn L) := DG_append (fun y hy => by simp at hy; omega) (dn_DG L); have ht := trimmed_ev hd1 (by simp; omega); have e1 : dv ([rd a (n : Int)] ++ dn L) = (rd a (n : Int)).toNat + 1000000000 * L := by rw [List.singleton_append, dv, dv_dn]
    rw [e1] at ht; refine Ev.bind ht ?_; generalize hL1 : (rd a (n : Int)).toNat + 1000000000 * L = L1; have hq1 : L1 / b < 1000000000 := by
      rw [Nat.div_lt_iff_lt_mul hb]; have := Nat.mul_le_mul_left 1000000000 (show L + 1 ≤ b by omega)
      omega
    have hq0 : (0 : Int) ≤ ((L1 / b : Nat) : Int) := Int.natCast_nonneg _; have hq2 : ((L1 / b : Nat) : Int) < 1000000000 := Int.ofNat_lt.2 hq1; refine floor_l1 hb hlb q (n : Int) sa a sb r ?_ 999999999 0 999999999 (by omega) (by omega) (by omega) (by omega); refine Ev.succ (f := fun z => Bs_WideFloor.l1 z q (dn L1) (n : Int) ((L1 / b : Nat) : Int) ((L1 / b : Nat) : Int) sa a sb (dn b)) ?_; simp only [Bs_WideFloor.l1, Int.lt_irrefl, if_false, show (0 : Int) ≤ (n : Int) by omega, show (n : Int) < (q.length : Int) by omega, if_true, Int.toNat_natCast]; have h1b := wideOf_ev 1 (dn_DG b) (by omega); rw [dv_dn, if_neg (show ¬ b = 0 by omega)] at h1b; refine Ev.bind h1b ?_; refine Ev.bind (WideOf_ev (x := ((L1 / b : Nat) : Int)) (by omega)) ?_; have hlm : (dn (((L1 / b : Nat) : Int)).natAbs).length ≤ 2 := dn_len (by rw [Int.natAbs_natCast]; have : (1000000000 : Nat) ^ 2 = 1000000000000000000 := (by decide); omega)
    have hmul := WideMul_ev (a := (b : Int)) (b := ((L1 / b : Nat) : Int)) (by simp only [Int.natAbs_natCast] at hlm ⊢; omega); rw [show wd (b : Int) = (1, dn b) by unfold wd; rw [sg_pos (by omega), Int.natAbs_natCast]] at hmul; refine Ev.bind hmul ?_; have e2 : (wd ((b : Int) * ((L1 / b : Nat) : Int))).2 = dn (b * (L1 / b)) := by unfold wd; dsimp only; rw [Int.natAbs_mul, Int.natAbs_natCast, Int.natAbs_natCast]
    rw [e2]; have hle : b * (L1 / b) ≤ L1 := Nat.mul_div_le L1 b; have hmod : L1 - b * (L1 / b) < b := by have := Nat.mod_lt L1 hb; rw [Nat.mod_eq_sub_mul_div] at this; exact this
    have hl1 : (dn L1).length ≤ (dn b).length + 1 := dn_len (by
      have p := dv_lt (dn_DG b); rw [dv_dn] at p; have := Nat.mul_le_mul_left 1000000000 (show L + 1 ≤ b by omega); rw [Nat.pow_succ]
      omega)
    have hsub := subDigits_ev (dn_DG L1) (dn_DG (b * (L1 / b))) (by omega) (by rw [dv_dn, dv_dn]; exact hle); rw [dv_dn, dv_dn] at hsub; refine Ev.bind hsub ?_; rw [w64 (by omega)]; refine ih (q.set n ((L1 / b : Nat) : Int)) _ (by omega) (by rw [List.length_set]; exact hq) (DG_set hD _ (by omega)) hmod ?_; rw [dv_drop (q.set n ((L1 / b : Nat) : Int)) n, rd_set (by omega), if_pos rfl, List.drop_set_of_lt (by omega), Int.toNat_natCast]; refine ring2 ?_ hL1.symm hle; rw [Nat.pow_succ, dv_take (by omega)] at hv; exact hv
theorem floorN (n b : Nat) (hb : 0 < b) : (-(n : Int)) / (b : Int) = if n % b = 0 then -((n / b : Nat) : Int) else -((n / b : Nat) : Int) - 1 := by
 have h := Nat.div_add_mod n b; have hm := Nat.mod_lt n hb; have e : ((b : Int) * ((n / b : Nat) : Int)) = ((b * (n / b) : Nat) : Int) := by simp
 by_cases h0 : n % b = 0
 ·rw [if_pos h0]; rw [show (-(n : Int)) = (b : Int) * (-((n / b : Nat) : Int)) by rw [Int.mul_neg, e]; omega]; exact Int.mul_ediv_cancel_left _ (by omega)
 ·rw [if_neg h0]; rw [show (-(n : Int)) = ((b - n % b : Nat) : Int) + (b : Int) * (-((n / b : Nat) : Int) - 1) by rw [Int.mul_sub, Int.mul_neg, e]; omega]; rw [Int.add_mul_ediv_left _ _ (by omega), Int.ediv_eq_zero_of_lt (by omega) (by omega)]
  omega
theorem WideFloor_ev {a b : Int} (hb : 0 < b) (hx : 0 ≤ a ∨ b ∣ a) (hla : (dn a.natAbs).length < 1000000) (hlb : (dn b.natAbs).length < 1000000) : Ev (fun k => Bs_WideFloor.f k (wd a).1 (wd a).2 (wd b).1 (wd b).2) (wd (a / b)) := by
 obtain ⟨n, rfl⟩ : ∃ n : Nat, b = (n : Int) := ⟨b.toNat, by omega⟩; rw [Int.natAbs_natCast] at hlb; unfold Bs_WideFloor.f
 by_cases h0 : a = 0
 ·subst h0; simp only [show (wd 0).1 = 0 from rfl, if_true, Int.zero_ediv]; rw [show wd 0 = (0, []) by unfold wd sg; simp [dn_zero]]; exact Ev.some
 ·have s0 : ¬ (wd a).1 = 0 := fun e => h0 (sg_zero.1 e); have hl : (wd a).2.length = (dn a.natAbs).length := rfl; simp only [s0, if_false, show (0 : Int) ≤ ((wd a).2.length : Int) by omega, Int.toNat_natCast, show (wd a).2.length ≤ 35184372088832 by omega, if_true]; have hz : ∀ (m : Nat), DG (List.replicate m 0) := fun m x hx => by rw [(List.mem_replicate.1 hx).2]; decide
  have key := floor_l0 (dn_DG a.natAbs) (b := n) (by omega) hla hlb (wd a).1 (wd (n : Int)).1 (wd (a / (n : Int))) (fun q hD hq hv => ?_) (dn a.natAbs).length (List.replicate (dn a.natAbs).length 0) 0 (Nat.le_refl _) (by simp) (hz _) (by omega) (by rw [List.drop_eq_nil_of_le (by simp), dv, List.take_length]; simp)
  ·rw [dn_zero] at key; rw [w64 (by omega)]; exact key
  ·rw [dv_dn] at hv ⊢; refine Ev.succ (f := fun z => Bs_WideFloor.l0 z q (dn (a.natAbs % n)) (-1) (wd a).1 (dn a.natAbs) (wd (n : Int)).1 (dn n)) ?_; simp only [Bs_WideFloor.l0, show ¬ (-1 : Int) ≥ 0 by decide, if_false]; have hw := wideOf_ev (wd a).1 hD (by omega); rw [hv, wd_of _ _ (by rcases sg_in a with e | e | e; exact .inr e; exact absurd e s0; exact .inl e)] at hw; refine Ev.bind hw ?_; have hlq : (dn (a.natAbs / n)).length ≤ (dn a.natAbs).length := dn_mono (Nat.div_le_self _ _)
   rcases Int.lt_or_lt_of_ne h0 with hn | hp
   ·have es : (wd a).1 = -1 := sg_neg hn; simp only [es, show (-1 : Int) < 0 by decide, if_true]; have hf : a / (n : Int) = if a.natAbs % n = 0 then -((a.natAbs / n : Nat) : Int) else -((a.natAbs / n : Nat) : Int) - 1 := by
     rw [← floorN a.natAbs n (by omega), show -((a.natAbs : Nat) : Int) = a by omega]
    rw [show (-1 : Int) * ((a.natAbs / n : Nat) : Int) = -((a.natAbs / n : Nat) : Int) by omega]
    by_cases hm : a.natAbs % n = 0
    ·rw [if_pos hm] at hf; rw [hf, hm, dn_zero]; refine Ev.succ (f := fun z => Bs_WideFloor.j2 z _ _ _) ?_; simp only [Bs_WideFloor.j2, List.length_nil, show decide (((0 : Nat) : Int) > 0) = false by decide, Bool.false_eq_true, if_false]; exact Ev.some
    ·rcases hx with hx | ⟨c, hc⟩
     ·omega
     ·exact absurd (show a.natAbs % n = 0 by rw [hc, Int.natAbs_mul, Int.natAbs_natCast, Nat.mul_mod_right]) hm
   ·have es : (wd a).1 = 1 := sg_pos hp; simp only [es, show ¬ (1 : Int) < 0 by decide, if_false]; refine Ev.succ (f := fun z => Bs_WideFloor.j2 z false _ _) ?_; simp only [Bs_WideFloor.j2, Bool.false_eq_true, if_false]; rw [show (1 : Int) * ((a.natAbs / n : Nat) : Int) = a / (n : Int) by rw [Int.one_mul, Int.natCast_ediv]; congr 1; omega]; exact Ev.some

theorem gcd_w0 : ∀ (m x y : Nat), y ≤ m → (dn x).length < 1000000 → (dn y).length < 1000000 → Ev (fun k => Bs_wideGcd.l0 k (wd (x : Int)).1 (wd (x : Int)).2 (wd (y : Int)).1 (wd (y : Int)).2) (wd ((Nat.gcd x y : Nat) : Int)) := by
 intro m
 induction m with
 | zero =>
  intro x y hy hx _; obtain rfl : y = 0 := by omega
  refine Ev.succ (f := fun k => Bs_wideGcd.l0 k (wd (x : Int)).1 (wd (x : Int)).2 (wd ((0 : Nat) : Int)).1 (wd ((0 : Nat) : Int)).2) ?_; simp only [Bs_wideGcd.l0, Bs_WideSign.f, Option.bind_some, show (wd ((0 : Nat) : Int)).1 = 0 from rfl, if_true, Nat.gcd_zero_right]; exact Ev.some
 | succ m ih =>
  intro x y hy hx hly; refine Ev.succ (f := fun k => Bs_wideGcd.l0 k (wd (x : Int)).1 (wd (x : Int)).2 (wd (y : Int)).1 (wd (y : Int)).2) ?_
  by_cases h0 : y = 0
  ·subst h0; simp only [Bs_wideGcd.l0, Bs_WideSign.f, Option.bind_some, show (wd ((0 : Nat) : Int)).1 = 0 from rfl, if_true, Nat.gcd_zero_right]; exact Ev.some
  ·have es : ¬ (wd (y : Int)).1 = 0 := fun e => h0 (by have := sg_zero.1 (show sg (y : Int) = 0 from e); omega); simp only [Bs_wideGcd.l0, Bs_WideSign.f, Option.bind_some, es, if_false]; refine Ev.bind (WideFloor_ev (a := (x : Int)) (b := (y : Int)) (by omega) (.inl (by omega)) (by rw [Int.natAbs_natCast]; exact hx) (by rw [Int.natAbs_natCast]; exact hly)) ?_; have e1 : (x : Int) / (y : Int) = ((x / y : Nat) : Int) := by simp
   have l1 : (dn (x / y)).length ≤ (dn x).length := dn_mono (Nat.div_le_self _ _); have hle : x / y * y ≤ x := Nat.div_mul_le_self x y; have l2 : (dn (x / y * y)).length ≤ (dn x).length := dn_mono hle; rw [e1]; refine Ev.bind (WideMul_ev (a := ((x / y : Nat) : Int)) (b := (y : Int)) (by rw [Int.natAbs_natCast, Int.natAbs_natCast]; omega)) ?_; have e2 : ((x / y : Nat) : Int) * (y : Int) = ((x / y * y : Nat) : Int) := by simp
   rw [e2]; refine Ev.bind (WideSub_ev (a := (x : Int)) (b := ((x / y * y : Nat) : Int)) (by rw [Int.natAbs_natCast]; omega) (by rw [Int.natAbs_natCast]; omega)) ?_; have hmod : (x : Int) - ((x / y * y : Nat) : Int) = ((x % y : Nat) : Int) := by
    have := Nat.mod_eq_sub_mul_div (x := x) (k := y); rw [Nat.mul_comm] at this
    omega
   rw [hmod]; have hlt := Nat.mod_lt x (show 0 < y by omega); have := ih y (x % y) (by omega) hly (by have := dn_mono (show x % y ≤ y by omega); omega); rw [show Nat.gcd x y = Nat.gcd y (x % y) by rw [Nat.gcd_comm x y, Nat.gcd_rec y x, Nat.gcd_comm]]; exact this
theorem wideGcd_ev {a b : Int} (hla : (dn a.natAbs).length < 1000000) (hlb : (dn b.natAbs).length < 1000000) : Ev (fun k => Bs_wideGcd.f k (wd a).1 (wd a).2 (wd b).1 (wd b).2) (wd ((Int.gcd a b : Nat) : Int)) := by
 unfold Bs_wideGcd.f; rw [wideSize_eq, wideSize_eq]; simp only [Option.bind_some]; exact gcd_w0 b.natAbs a.natAbs b.natAbs (Nat.le_refl _) hla hlb

def Rt (p : Int × Int) : Int × List Int × Int × List Int := ((wd p.1).1, (wd p.1).2, (wd p.2).1, (wd p.2).2)
def red (a b : Int) : Int × Int := (a / (Int.gcd a b : Int), b / (Int.gcd a b : Int))
theorem RatioMake_ev {a b : Int} (hb : 0 < b) (hla : (dn a.natAbs).length < 1000000) (hlb : (dn b.natAbs).length < 1000000) : Ev (fun k => Bs_RatioMake.f k (wd a).1 (wd a).2 (wd b).1 (wd b).2) (Rt (red a b)) := by
 have h1 : (dn (1 : Int).natAbs).length ≤ 1 := dn_len (by decide); have hg0 : 0 < Int.gcd a b := Int.gcd_pos_of_ne_zero_right _ (by omega); have hgl : Int.gcd a b ≤ b.natAbs := Nat.le_of_dvd (by omega) (Nat.gcd_dvd_right _ _); have hgn : (dn (Int.gcd a b)).length ≤ (dn b.natAbs).length := dn_mono hgl; unfold Bs_RatioMake.f; simp only [Bs_WideSign.f, Option.bind_some, show (wd b).1 = 1 from sg_pos hb, show ¬ (1 : Int) < 0 by decide, if_false]; have hg := wideGcd_ev hla hlb; rw [show (wd b).1 = 1 from sg_pos hb] at hg; refine Ev.bind hg ?_; refine Ev.bind (WideOf_ev (x := 1) (by decide)) ?_; have hc : Ev (fun k => Bs_WideCmp.f k (wd ((Int.gcd a b : Nat) : Int)).1 (wd ((Int.gcd a b : Nat) : Int)).2 (wd 1).1 (wd 1).2) (sg (((Int.gcd a b : Nat) : Int) - 1)) :=
  Ev.bind (WideSub_ev (a := ((Int.gcd a b : Nat) : Int)) (b := 1) (by rw [Int.natAbs_natCast]; omega) (by omega)) Ev.some
 refine Ev.bind hc ?_
 by_cases he : Int.gcd a b = 1
 ·have : sg (((Int.gcd a b : Nat) : Int) - 1) = 0 := sg_zero.2 (by omega); simp only [this, if_true]; have e : red a b = (a, b) := by unfold red; rw [he]; simp
  rw [e]; unfold Rt; rw [show (wd b).1 = 1 from sg_pos hb]; exact Ev.some
 ·have : ¬ sg (((Int.gcd a b : Nat) : Int) - 1) = 0 := fun e => he (by have := sg_zero.1 e; omega); simp only [this, if_false]; have ha' := WideFloor_ev (a := a) (b := ((Int.gcd a b : Nat) : Int)) (by omega) (.inr (Int.gcd_dvd_left ..)) hla (by rw [Int.natAbs_natCast]; omega); have hb' := WideFloor_ev (a := b) (b := ((Int.gcd a b : Nat) : Int)) (by omega) (.inr (Int.gcd_dvd_right ..)) hlb (by rw [Int.natAbs_natCast]; omega); rw [show (wd b).1 = 1 from sg_pos hb] at hb'; exact Ev.bind ha' (Ev.bind hb' Ev.some)
theorem red_spec {a b : Int} (hb : 0 < b) : ∃ g : Int, 0 < g ∧ a = (red a b).1 * g ∧ b = (red a b).2 * g ∧ Int.gcd (red a b).1 (red a b).2 = 1 ∧ 0 < (red a b).2 := by
 have hg0 : 0 < Int.gcd a b := Int.gcd_pos_of_ne_zero_right _ (by omega); have e1 : a / (Int.gcd a b : Int) * (Int.gcd a b : Int) = a := Int.ediv_mul_cancel (Int.gcd_dvd_left ..); have e2 : b / (Int.gcd a b : Int) * (Int.gcd a b : Int) = b := Int.ediv_mul_cancel (Int.gcd_dvd_right ..); refine ⟨(Int.gcd a b : Int), by omega, e1.symm, e2.symm, Int.gcd_ediv_gcd_ediv_gcd hg0, ?_⟩; unfold red
 rcases Int.lt_or_le 0 (b / (Int.gcd a b : Int)) with h | h
 ·exact h
 ·have := Int.mul_le_mul_of_nonneg_right h (show 0 ≤ (Int.gcd a b : Int) by omega); rw [e2] at this
  omega
theorem red_mul {a b c : Int} (hc : 0 < c) (hb : 0 < b) : red (a * c) (b * c) = red a b := by
 have hg0 : 0 < Int.gcd a b := Int.gcd_pos_of_ne_zero_right _ (by omega); unfold red; rw [Int.gcd_mul_right, Int.natCast_mul, Int.natAbs_of_nonneg (by omega), Int.mul_ediv_mul_of_pos_left _ _ hc, Int.mul_ediv_mul_of_pos_left _ _ hc]
theorem WideInt_ev (z : Int) : Ev (fun k => Bs_WideInt.f k (wd z).1 (wd z).2) (if z.natAbs < 1000000000000000000 then (z, true) else (0, false)) := by
  unfold Bs_WideInt.f; have e2 : (1000000000 : Nat) ^ 2 = 1000000000000000000 := by decide
  have hz : sg z * (z.natAbs : Int) = z := by
    rcases Int.lt_trichotomy z 0 with h | h | h
    · rw [sg_neg h]; omega
    · subst h; rfl
    · rw [sg_pos h]; omega
  by_cases h : z.natAbs < 1000000000000000000
  · have hl : (dn z.natAbs).length ≤ 2 := dn_len (by omega)
    show Ev (fun k => if ((dn z.natAbs).length : Int) > 2 then _ else Bs_WideInt.l0 k 0 (wrap64 (((dn z.natAbs).length : Int) - 1)) (sg z) (dn z.natAbs)) _
    simp only [h, show ¬ ((dn z.natAbs).length : Int) > 2 by omega, if_true, if_false]; have hv := dv_dn z.natAbs; have hD := dn_DG z.natAbs; have last : ∀ (l : List Int) (v : Int), v = z.natAbs → Ev (fun k => Bs_WideInt.l0 k v (-1) (sg z) l) (z, true) := fun l v ev => by
      refine Ev.succ (f := fun k => Bs_WideInt.l0 k v (-1) (sg z) l) ?_; simp only [Bs_WideInt.l0, show ¬ (-1 : Int) ≥ 0 by decide, if_false]; rw [ev, hz, w64 (by omega)]; exact Ev.some
    have one : ∀ (l : List Int) (v : Int) (i : Nat) (r : Int × Bool), i < l.length → i < 2 → (0 ≤ v ∧ v < 1000000000) → DG l → Ev (fun k => Bs_WideInt.l0 k (v * 1000000000 + rd l (i : Int)) ((i : Int) - 1) (sg z) l) r → Ev (fun k => Bs_WideInt.l0 k v (i : Int) (sg z) l) r := fun l v i r hi h2 hv hD hn => by
      have hx := rd_D hD i; refine Ev.succ (f := fun k => Bs_WideInt.l0 k v (i : Int) (sg z) l) ?_; simp only [Bs_WideInt.l0, show (i : Int) ≥ 0 by omega, show (0 : Int) ≤ (i : Int) by omega, show (i : Int) < (l.length : Int) by omega, if_true]; rw [w64 (n := v * 1000000000) (by omega), w64 (n := v * 1000000000 + rd l (i : Int)) (by omega), w64 (n := (i : Int) - 1) (by omega)]; exact hn
    generalize dn z.natAbs = l at hl hv hD ⊢
    match l, hl, hv, hD with
    | [], _, hv, _ =>
      rw [w64 (by simp)]; exact last _ _ (by rw [dv] at hv; omega)
    | [x], _, hv, hD =>
      rw [w64 (by simp)]; rw [dv, dv] at hv; have hx := hD x (by simp); refine one [x] 0 0 _ (by simp) (by decide) (by decide) hD ?_; exact last _ _ (by rw [show rd [x] ((0 : Nat) : Int) = x from rfl]; omega)
    | [x, y], _, hv, hD =>
      rw [w64 (by simp)]; rw [dv, dv, dv] at hv; have hx := hD x (by simp); have hy := hD y (by simp); refine one [x, y] 0 1 _ (by simp) (by decide) (by decide) hD ?_; refine one [x, y] _ 0 _ (by simp) (by decide) (by rw [show rd [x, y] ((1 : Nat) : Int) = y from rfl]; omega) hD ?_; exact last _ _ (by rw [show rd [x, y] ((1 : Nat) : Int) = y from rfl, show rd [x, y] ((0 : Nat) : Int) = x from rfl]; omega)
    | _ :: _ :: _ :: _, hl, _, _ => simp at hl
  · have hl : 2 < (dn z.natAbs).length := by
      rcases Nat.lt_or_ge 2 (dn z.natAbs).length with h2 | h2
      · exact h2
      · have := dv_lt (dn_DG z.natAbs); rw [dv_dn] at this; have p := Nat.pow_le_pow_right (show 1000000000 > 0 by decide) h2
        omega
    show Ev (fun k => if ((dn z.natAbs).length : Int) > 2 then _ else _) _
    simp only [h, show ((dn z.natAbs).length : Int) > 2 by omega, if_true, if_false]; exact Ev.some
def smallP (p : Int × Int) : Prop := (-1000000000 ≤ p.1 ∧ p.1 ≤ 1000000000) ∧ 1 ≤ p.2 ∧ p.2 ≤ 1000000000
instance (p : Int × Int) : Decidable (smallP p) := by unfold smallP; infer_instance
theorem IsSmall_dec (a b : Int) : Bs_IsSmall.f a b = some (decide (smallP (a, b))) := by
 unfold Bs_IsSmall.f smallP; simp only [Within_eq, Option.bind_some, decide_eq_true_eq]
 by_cases h : -1000000000 ≤ a ∧ a ≤ 1000000000
 ·simp only [h, and_self, if_true, true_and]
 ·simp only [h, if_false, false_and, decide_false]
theorem RatioFrac_ev (p : Int × Int) : Ev (fun k => Bs_RatioFrac.f k (Rt p).1 (Rt p).2.1 (Rt p).2.2.1 (Rt p).2.2.2) (if smallP p then (p.1, p.2, true) else (0, 0, false)) := by
 unfold Bs_RatioFrac.f; refine Ev.bind (WideInt_ev p.1) ?_; refine Ev.bind (WideInt_ev p.2) ?_
 by_cases h1 : p.1.natAbs < 1000000000000000000
 ·by_cases h2 : p.2.natAbs < 1000000000000000000
  ·simp only [h1, h2, if_true, IsSmall_dec, Option.bind_some, decide_eq_true_eq]
   by_cases h : smallP p
   ·simp only [h, if_true]; exact Ev.some
   ·simp only [h, if_false]; exact Ev.some
  ·have h : ¬ smallP p := fun h => by unfold smallP at h; omega
   simp only [h1, h2, h, if_true, if_false, Bool.false_eq_true]; exact Ev.some
 ·have h : ¬ smallP p := fun h => by unfold smallP at h; omega
  simp only [h1, h, if_false, Bool.false_eq_true]; exact Ev.some
def sE (s o d : Int) : List S85 → Int
 | [] => 0
 | t :: r => off s o d t * off s o d t + sE s o d r
theorem sE_nn (s o d : Int) : ∀ r : List S85, 0 ≤ sE s o d r
 | [] => by simp [sE]
 | t :: r => by have := sE_nn s o d r; have := sq_nonneg (off s o d t); simp only [sE]; omega
theorem sE_eq (s o d : Int) : ∀ r : List S85, sE s o d r = d * d * sYY r + s * s * sXX r + (r.length : Int) * (o * o) - 2 * (d * s) * sXY r - 2 * (d * o) * sY r + 2 * (s * o) * sX r
 | [] => by simp [sE, sYY, sXX, sXY, sY, sX]
 | t :: r => by
  simp only [sE, sE_eq s o d r, sYY, sXX, sXY, sY, sX, List.length_cons, off]
  push_cast
  grind
theorem core1 (n X Y XX XY YY A B C : Int) (hA : A = n * XX - X * X) (hB : B = n * XY - X * Y) (hC : C = Y * XX - X * XY) :
  n * (A * A * YY + B * B * XX + n * (C * C) - 2 * (A * B) * XY - 2 * (A * C) * Y + 2 * (B * C) * X) = A * ((n * YY - Y * Y) * A - B * B) := by
 subst hA hB hC
 grind
def rNum (l : List S85) : Int := dQ l * dA l - dB l * dB l
def rDen (l : List S85) : Int := (l.length : Int) * dA l
theorem full (l : List S85) : (l.length : Int) * sE (dB l) (dC l) (dA l) l = dA l * rNum l := by
 rw [sE_eq]; unfold rNum dQ; exact core1 (l.length : Int) (sX l) (sY l) (sXX l) (sXY l) (sYY l) (dA l) (dB l) (dC l) rfl rfl rfl
theorem off_scale (s o d g : Int) (t : S85) : off (s * g) (o * g) (d * g) t = off s o d t * g := by unfold off; grind
theorem sE_scale (s o d g : Int) : ∀ r : List S85, sE (s * g) (o * g) (d * g) r = sE s o d r * (g * g)
 | [] => by simp [sE]
 | t :: r => by
  simp only [sE, sE_scale s o d g r, off_scale]
  grind
theorem cross {l : List S85} (h1 : 1 ≤ l.length) (h0 : dA l ≠ 0) : sE (ln l).1 (ln l).2.1 (ln l).2.2 l * rDen l = rNum l * ((ln l).2.2 * (ln l).2.2) ∧ 0 < dA l ∧ 0 < (ln l).2.2 ∧ 0 ≤ rNum l ∧ 0 < rDen l := by
 obtain ⟨hg, e1, e2, e3⟩ := ln_mul h0; have hA : 0 < dA l := by have := dA_nn l; omega
 have hf := full l; have hsc := sE_scale (ln l).1 (ln l).2.1 (ln l).2.2 (gL l) l; rw [← e1, ← e2, ← e3] at hsc; have hd : 0 < (ln l).2.2 := by
  apply Int.lt_of_not_ge; intro hc
  have := Int.mul_le_mul_of_nonneg_right hc (show 0 ≤ gL l by omega)
  omega
 have hD : 0 < rDen l := Int.mul_pos (by omega) hA; have hN : 0 ≤ rNum l := by
  apply Int.le_of_not_gt; intro hc
  have h2 : dA l * rNum l < 0 := Int.mul_neg_of_pos_of_neg hA hc; have h3 := sE_nn (dB l) (dC l) (dA l) l; have h4 := Int.mul_nonneg (show (0 : Int) ≤ (l.length : Int) by omega) h3
  omega
 refine ⟨?_, hA, hd, hN, hD⟩; have hgg : 0 < gL l * gL l := Int.mul_pos hg hg
 apply Int.eq_of_mul_eq_mul_right (show gL l * gL l ≠ 0 by omega)
 have a1 : sE (ln l).1 (ln l).2.1 (ln l).2.2 l * rDen l * (gL l * gL l) = (l.length : Int) * sE (dB l) (dC l) (dA l) l * dA l := by
  rw [hsc]; unfold rDen; grind
 have a2 : rNum l * ((ln l).2.2 * (ln l).2.2) * (gL l * gL l) = dA l * rNum l * dA l := by
  conv => rhs; rw [e3]
  grind
 rw [a1, a2, hf]
theorem red_eq {a b c d : Int} (hb : 0 < b) (hd : 0 < d) (h : a * d = c * b) : red a b = red c d := by
 rw [← red_mul (a := a) (b := b) (c := d) hd hb, h, Int.mul_comm b d, red_mul hb hd]

theorem dn_ok {z : Int} (h : z.natAbs < 1000000000 ^ 100) : (dn z.natAbs).length < 1000 := Nat.lt_of_le_of_lt (dn_len h) (by omega)
theorem red_le {a b : Int} (hb : 0 < b) : (red a b).1.natAbs ≤ a.natAbs ∧ (red a b).2.natAbs ≤ b.natAbs := by
 unfold red; exact ⟨Int.natAbs_ediv_le_natAbs _ _, Int.natAbs_ediv_le_natAbs _ _⟩
theorem mul_nat {x y : Int} {A B : Nat} (hx : x.natAbs ≤ A) (hy : y.natAbs ≤ B) : (x * y).natAbs ≤ A * B := by
 rw [Int.natAbs_mul]; exact Nat.mul_le_mul hx hy
theorem RatioOf_ev {e a : Int} (ha : 0 < a) (he : -9223372036854775808 ≤ e ∧ e ≤ 9223372036854775807) (ha2 : a ≤ 9223372036854775807) : Ev (fun k => Bs_RatioOf.f k e a) (Rt (red e a)) := by
 unfold Bs_RatioOf.f; refine Ev.bind (WideOf_ev he) ?_; refine Ev.bind (WideOf_ev (x := a) (by omega)) ?_; refine Ev.bind (RatioMake_ev ha (Nat.lt_of_lt_of_le (dn_ok (by omega)) (by omega)) (Nat.lt_of_lt_of_le (dn_ok (by omega)) (by omega))) ?_; exact Ev.some
theorem RatioSq_ev {e a : Int} (ha : 0 < a) (he : -9223372036854775808 ≤ e ∧ e ≤ 9223372036854775807) (ha2 : a ≤ 9223372036854775807) : Ev (fun k => Bs_RatioMul.f k (Rt (red e a)).1 (Rt (red e a)).2.1 (Rt (red e a)).2.2.1 (Rt (red e a)).2.2.2 (Rt (red e a)).1 (Rt (red e a)).2.1 (Rt (red e a)).2.2.1 (Rt (red e a)).2.2.2) (Rt (red (e * e) (a * a))) := by
 obtain ⟨g, hg, e1, e2, _, hp⟩ := red_spec (a := e) ha; obtain ⟨b1, b2⟩ := red_le (a := e) ha; have he' : (red e a).1.natAbs ≤ 9223372036854775808 := by omega
 have ha' : (red e a).2.natAbs ≤ 9223372036854775808 := by omega
 have m1 := mul_nat he' he'; have m2 := mul_nat ha' ha'; have l1 : (dn (red e a).1.natAbs).length < 1000 := dn_ok (by omega); have l2 : (dn (red e a).2.natAbs).length < 1000 := dn_ok (by omega); have l3 : (dn ((red e a).1 * (red e a).1).natAbs).length < 1000 := dn_ok (by omega); have l4 : (dn ((red e a).2 * (red e a).2).natAbs).length < 1000 := dn_ok (by omega); unfold Bs_RatioMul.f; refine Ev.bind (WideMul_ev (a := (red e a).1) (b := (red e a).1) (by omega)) ?_; refine Ev.bind (WideMul_ev (a := (red e a).2) (b := (red e a).2) (by omega)) ?_; refine Ev.bind (RatioMake_ev (Int.mul_pos hp hp) (by omega) (by omega)) ?_; have q : red ((red e a).1 * (red e a).1) ((red e a).2 * (red e a).2) = red (e * e) (a * a) := by
  have h1 : e * e = (red e a).1 * (red e a).1 * (g * g) := by
   conv => lhs; rw [e1]
   grind
  have h2 : a * a = (red e a).2 * (red e a).2 * (g * g) := by
   conv => lhs; rw [e2]
   grind
  rw [h1, h2, red_mul (Int.mul_pos hg hg) (Int.mul_pos hp hp)]
 rw [q]; exact Ev.some
theorem RatioAdd_ev {p p' q : Int} (hq : 0 < q) (bp : p.natAbs < 1000000000 ^ 20) (bp' : p'.natAbs < 1000000000 ^ 20) (bq : q.natAbs < 1000000000 ^ 20) :
  Ev (fun k => Bs_RatioAdd.f k (Rt (red p q)).1 (Rt (red p q)).2.1 (Rt (red p q)).2.2.1 (Rt (red p q)).2.2.2 (Rt (red p' q)).1 (Rt (red p' q)).2.1 (Rt (red p' q)).2.2.1 (Rt (red p' q)).2.2.2) (Rt (red (p + p') q)) := by
 obtain ⟨g, hg, e1, e2, _, hp⟩ := red_spec (a := p) hq; obtain ⟨g', hg', e1', e2', _, hp'⟩ := red_spec (a := p') hq; obtain ⟨b1, b2⟩ := red_le (a := p) hq; obtain ⟨b1', b2'⟩ := red_le (a := p') hq; obtain ⟨x, hx⟩ : ∃ x, x = red p q := ⟨_, rfl⟩; obtain ⟨x', hx'⟩ : ∃ x', x' = red p' q := ⟨_, rfl⟩; rw [← hx] at e1 e2 hp b1 b2 ⊢; rw [← hx'] at e1' e2' hp' b1' b2' ⊢; have B : Nat := 0; have a1 : x.1.natAbs ≤ 1000000000 ^ 20 := by omega
 have a2 : x.2.natAbs ≤ 1000000000 ^ 20 := by omega
 have a3 : x'.1.natAbs ≤ 1000000000 ^ 20 := by omega
 have a4 : x'.2.natAbs ≤ 1000000000 ^ 20 := by omega
 have m1 := mul_nat a1 a4; have m2 := mul_nat a3 a2; have m3 := mul_nat a2 a4; have l1 : (dn x.1.natAbs).length < 1000 := dn_ok (by omega); have l2 : (dn x.2.natAbs).length < 1000 := dn_ok (by omega); have l3 : (dn x'.1.natAbs).length < 1000 := dn_ok (by omega); have l4 : (dn x'.2.natAbs).length < 1000 := dn_ok (by omega); have l5 : (dn (x.1 * x'.2).natAbs).length < 1000 := dn_ok (by omega); have l6 : (dn (x'.1 * x.2).natAbs).length < 1000 := dn_ok (by omega); have l7 : (dn (x.2 * x'.2).natAbs).length < 1000 := dn_ok (by omega); have l8 : (dn (x.1 * x'.2 + x'.1 * x.2).natAbs).length < 1000 := dn_ok (by omega); unfold Bs_RatioAdd.f; refine Ev.bind (WideMul_ev (a := x.1) (b := x'.2) (by omega)) ?_; refine Ev.bind (WideMul_ev (a := x'.1) (b := x.2) (by omega)) ?_; refine Ev.bind (WideAdd_ev (a := x.1 * x'.2) (b := x'.1 * x.2) (by omega) (by omega)) ?_; refine Ev.bind (WideMul_ev (a := x.2) (b := x'.2) (by omega)) ?_; refine Ev.bind (RatioMake_ev (Int.mul_pos hp hp') (by omega) (by omega)) ?_; have q1 : red (x.1 * x'.2 + x'.1 * x.2) (x.2 * x'.2) = red (p + p') q := by
  refine red_eq (Int.mul_pos hp hp') hq ?_; have h1 : (x.1 * x'.2 + x'.1 * x.2) * q = x.1 * (x'.2 * q) + x'.1 * (x.2 * q) := by grind
  have h2 : (p + p') * (x.2 * x'.2) = p * (x.2 * x'.2) + p' * (x.2 * x'.2) := by grind
  have h3 : p * x.2 = x.1 * q := by
   conv => lhs; rw [e1]
   conv => rhs; rw [e2]
   grind
  have h4 : p' * x'.2 = x'.1 * q := by
   conv => lhs; rw [e1']
   conv => rhs; rw [e2']
   grind
  have h5 : p * (x.2 * x'.2) = x.1 * (x'.2 * q) := by rw [← Int.mul_assoc, h3]; grind
  have h6 : p' * (x.2 * x'.2) = x'.1 * (x.2 * q) := by rw [Int.mul_comm x.2 x'.2, ← Int.mul_assoc, h4]; grind
  rw [h1, h2, h5, h6]
 rw [q1]; exact Ev.some
def frR (p : Int × Int) : Int × Int × Bool := if smallP p then (p.1, p.2, true) else (0, 0, false)
theorem Resid_l0 (l : List S85) (hl : l.length ≤ 8) (hk : ∀ t ∈ l, okR t) {s o d : Int} (hs : -1000000000 ≤ s ∧ s ≤ 1000000000) (ho : -1000000000000 ≤ o ∧ o ≤ 1000000000000) (hd : 0 < d ∧ d ≤ 1000000000) : ∀ (n i : Nat) (p : Int), i + n = l.length → (0 ≤ p ∧ p ≤ 25000000000000000000000000 * (i : Int)) →
  Ev (fun k => Rf_Residual.l0 k l (i : Int) s o d (Rt (red p (d * d))).1 (Rt (red p (d * d))).2.1 (Rt (red p (d * d))).2.2.1 (Rt (red p (d * d))).2.2.2) (frR (red (p + sE s o d (l.drop i)) (d * d)))
 | 0, i, p, h, hp => by
  refine Ev.succ (f := fun k => Rf_Residual.l0 k l (i : Int) s o d (Rt (red p (d * d))).1 (Rt (red p (d * d))).2.1 (Rt (red p (d * d))).2.2.1 (Rt (red p (d * d))).2.2.2) ?_; rw [show l.drop i = [] from List.drop_eq_nil_of_le (by omega)]; simp only [Rf_Residual.l0, show ¬ (i : Int) < (l.length : Int) by omega, if_false, sE, Int.add_zero]; exact Ev.bind (a := frR (red p (d * d))) (RatioFrac_ev _) Ev.some
 | n + 1, i, p, h, hp => by
  refine Ev.succ (f := fun k => Rf_Residual.l0 k l (i : Int) s o d (Rt (red p (d * d))).1 (Rt (red p (d * d))).2.1 (Rt (red p (d * d))).2.2.1 (Rt (red p (d * d))).2.2.2) ?_; have hi : i < l.length := by omega
  have ht := hk _ (rd85_mem hi); rw [rd85_drop hi]; obtain ⟨t, ht0⟩ : ∃ t, t = rd_T85 l (i : Int) := ⟨_, rfl⟩; rw [← ht0] at ht ⊢; obtain ⟨k1, k2, k3, k4⟩ := off_in hs ho (d := d) (by omega) ht; have e1 : wrap64 (wrap64 (wrap64 (d * t.f1) - wrap64 (s * t.f0)) - o) = off s o d t := by
   rw [w64 (n := d * t.f1) (by omega), w64 (n := s * t.f0) (by omega), w64 (n := d * t.f1 - s * t.f0) (by omega), w64 (by omega)]; rfl
  have hsq : 0 ≤ off s o d t * off s o d t ∧ off s o d t * off s o d t ≤ 25000000000000000000000000 := by
   refine ⟨sq_nonneg _, ?_⟩; have := mul_nat (x := off s o d t) (y := off s o d t) (A := 5000000000000) (B := 5000000000000) (by omega) (by omega)
   omega
  have hdd : 0 < d * d := Int.mul_pos hd.1 hd.1; have hdn : (d * d).natAbs ≤ 1000000000 * 1000000000 := mul_nat (by omega) (by omega); have ih := Resid_l0 l hl hk hs ho hd n (i + 1) (p + off s o d t * off s o d t) (by omega) (by omega); simp only [sE]; rw [← Int.add_assoc]; simp only [Rf_Residual.l0, show (i : Int) < (l.length : Int) by omega, show (0 : Int) ≤ (i : Int) by omega, if_true, ← ht0, e1, up (show i < 4611686018427387904 by omega)]; refine Ev.bind (RatioOf_ev (e := off s o d t) hd.1 (by omega) (by omega)) ?_; refine Ev.bind (RatioSq_ev (e := off s o d t) hd.1 (by omega) (by omega)) ?_; refine Ev.bind (RatioAdd_ev hdd (by omega) (by omega) (by omega)) ?_; exact ih
def rs (l : List S85) : Int × Int := red (rNum l) (rDen l)
theorem ln_in {l : List S85} (hr : rsE l = 0) (h0 : dA l ≠ 0) : (-1000000000 ≤ (ln l).1 ∧ (ln l).1 ≤ 1000000000) ∧ (-1000000000000 ≤ (ln l).2.1 ∧ (ln l).2.1 ≤ 1000000000000) ∧ (0 < (ln l).2.2 ∧ (ln l).2.2 ≤ 1000000000) := by
 obtain ⟨h1, h8, hk⟩ := readings_ok hr; obtain ⟨i1, i2, i3, i4⟩ := dABC_in h8 hk; obtain ⟨_, _, hd, _, _⟩ := cross h1 h0; have a := Int.natAbs_ediv_le_natAbs (dB l) (gL l); have b := Int.natAbs_ediv_le_natAbs (dC l) (gL l); have c := Int.natAbs_ediv_le_natAbs (dA l) (gL l); have e1 : (ln l).1 = dB l / gL l := rfl; have e2 : (ln l).2.1 = dC l / gL l := rfl; have e3 : (ln l).2.2 = dA l / gL l := rfl
 omega
theorem Residual_ev {l : List S85} (hr : rsE l = 0) (h0 : dA l ≠ 0) : Ev (fun k => Rf_Residual.f k l) (if smallP (rs l) then ((rs l).1, (rs l).2, true) else (0, 0, false)) := by
 obtain ⟨h1, h8, hk⟩ := readings_ok hr; obtain ⟨e1, e2, e3⟩ := ln_in hr h0; obtain ⟨hc, hA, hd, hN, hD⟩ := cross h1 h0; unfold Rf_Residual.f; refine Ev.bind (Line_ev hr h0) ?_; have hR : Ev (fun k => Bs_RatioInt.f k 0) (Rt (red 0 ((ln l).2.2 * (ln l).2.2))) := by
  have hq := Int.mul_pos hd hd; have : red 0 ((ln l).2.2 * (ln l).2.2) = (0, 1) := by
   unfold red; rw [Int.gcd_zero_left, Int.zero_ediv]; rw [show (((ln l).2.2 * (ln l).2.2).natAbs : Int) = (ln l).2.2 * (ln l).2.2 by omega, Int.ediv_self (by omega)]
  rw [this]; unfold Bs_RatioInt.f; refine Ev.bind (WideOf_ev (x := 0) (by omega)) ?_; refine Ev.bind (WideOf_ev (x := 1) (by omega)) ?_; exact Ev.some
 refine Ev.bind hR ?_; have := Resid_l0 l h8 hk e1 e2 e3 l.length 0 0 (by omega) (by omega); rw [List.drop_zero, Int.zero_add, red_eq (Int.mul_pos hd hd) hD hc] at this; exact this
theorem rs_eq {l : List S85} (h1 : 1 ≤ l.length) (h0 : dA l ≠ 0) : 0 ≤ (rs l).1 ∧ 0 < (rs l).2 ∧ (rs l).1 * rDen l = rNum l * (rs l).2 := by
 obtain ⟨hc, hA, hd, hN, hD⟩ := cross h1 h0; obtain ⟨g, hg, e1, e2, _, hp⟩ := red_spec (a := rNum l) hD; have hr : rs l = red (rNum l) (rDen l) := rfl; rw [← hr] at e1 e2 hp; refine ⟨?_, hp, ?_⟩
 ·apply Int.le_of_not_gt; intro hneg
  have := Int.mul_neg_of_neg_of_pos hneg hg
  omega
 ·conv => lhs; rw [e2]
  conv => rhs; rw [e1]
  grind
theorem rNum_in {l : List S85} (hr : rsE l = 0) : (-70000000000000000 ≤ dQ l * dA l ∧ dQ l * dA l ≤ 70000000000000000) ∧ (-70000000000000000 ≤ dB l * dB l ∧ dB l * dB l ≤ 70000000000000000) ∧ (-2100000000 ≤ rDen l ∧ rDen l ≤ 2100000000) := by
 obtain ⟨h1, h8, hk⟩ := readings_ok hr; obtain ⟨i1, i2, i3, i4⟩ := dABC_in h8 hk; have a := mul_nat (x := dQ l) (y := dA l) (A := 256000000) (B := 256000000) (by omega) (by omega); have b := mul_nat (x := dB l) (y := dB l) (A := 256000000) (B := 256000000) (by omega) (by omega); have c := mul_nat (x := (l.length : Int)) (y := dA l) (A := 8) (B := 256000000) (by omega) (by omega); unfold rDen
 omega
theorem ResidualOf_ev (l : List S85) : Ev (fun k => L_ResidualOf.f k l) (if opE l = 0 then (if smallP (rs l) then ((rs l).1, (rs l).2, 0) else (0, 0, 8)) else (0, 0, opE l)) := by
 unfold L_ResidualOf.f; refine Ev.bind (open_ev l) ?_; have h2 : (opV l).2.2.2.2.2.2 = opE l := by unfold opV; split <;> rfl
 by_cases h : opE l = 0
 ·obtain ⟨hr, h0⟩ := op_ok h; obtain ⟨h1, h8, hk⟩ := readings_ok hr; obtain ⟨hc, hA, hd, hN, hD⟩ := cross h1 h0; obtain ⟨n1, n2, n3⟩ := rNum_in hr; rw [h2]; unfold opV; simp only [hr, h, if_true, shared_eq h8 hk, spread_eq h8 hk, square_eq h8 hk, Option.bind_some]; have en : wrap64 (wrap64 (dQ l * dA l) - wrap64 (dB l * dB l)) = rNum l := by
   unfold rNum; rw [w64 (n := dQ l * dA l) (by omega), w64 (n := dB l * dB l) (by omega), w64 (by omega)]
  have ed : wrap64 ((l.length : Int) * dA l) = rDen l := w64 (by unfold rDen at n3; omega); have hni : -140000000000000000 ≤ rNum l ∧ rNum l ≤ 140000000000000000 := by unfold rNum; omega
  rw [en, ed]; have hfr : Ev (fun k => L_fraction.f k (rNum l) (rDen l)) (rs l) := by
   unfold L_fraction.f; refine Ev.bind (divisor_ev _ (by simp) (by simp; omega)) ?_; have hg2 : gcds 0 [rNum l, rDen l] = Int.gcd (rNum l) (rDen l) := by simp [gcds, Int.gcd]
   rw [hg2]; have hgp : 0 < Int.gcd (rNum l) (rDen l) := Int.gcd_pos_of_ne_zero_right _ (by omega); have hgp' : (0 : Int) < (Int.gcd (rNum l) (rDen l) : Int) := by omega
   obtain ⟨a1, a2, a3⟩ := ex_div hgp' (Int.gcd_dvd_left (rNum l) (rDen l)); obtain ⟨b1, b2, b3⟩ := ex_div hgp' (Int.gcd_dvd_right (rNum l) (rDen l)); simp only [show ¬ (Int.gcd (rNum l) (rDen l) : Int) = 0 by omega, if_false, a1, b1]; rw [w64 (n := rNum l / _) (by omega), w64 (n := rDen l / _) (by omega)]; exact Ev.some
  refine Ev.bind hfr ?_; obtain ⟨r1, r2, _⟩ := rs_eq h1 h0; unfold smallP
  by_cases c1 : (rs l).1 > 1000000000
  ·simp only [c1, if_true, show ¬ ((-1000000000 ≤ (rs l).1 ∧ (rs l).1 ≤ 1000000000) ∧ 1 ≤ (rs l).2 ∧ (rs l).2 ≤ 1000000000) by omega, if_false]; exact Ev.some
  ·by_cases c2 : (rs l).2 > 1000000000
   ·simp only [c1, c2, if_true, show ¬ ((-1000000000 ≤ (rs l).1 ∧ (rs l).1 ≤ 1000000000) ∧ 1 ≤ (rs l).2 ∧ (rs l).2 ≤ 1000000000) by omega, if_false]; exact Ev.some
   ·have c3 : ((-1000000000 ≤ (rs l).1 ∧ (rs l).1 ≤ 1000000000) ∧ 1 ≤ (rs l).2 ∧ (rs l).2 ≤ 1000000000) = True := eq_true (by omega); simp only [c1, c2, c3, if_true, if_false]; exact Ev.some
 ·simp only [h2, h, if_false]; exact Ev.some
theorem awake_ev : Ev (fun k => Lw_awake.f k) true :=
 Ev.of_mono (k := 1500) (fun k => Lw_awake.mono k) (by kernel_rfl)
theorem TargetLines_ev (l : List S85) (s o d : Int) : Ev (fun k => Lw_TargetLines.f k l s o d) true := by
 unfold Lw_TargetLines.f; refine Ev.bind awake_ev ?_; simp only [if_true, few_eq, Option.bind_some, decide_eq_true_eq]
 by_cases hl : (l.length : Int) ≤ 10
 ·simp only [hl, if_true, CopyReadings_eq l (by omega), Option.bind_some]; refine Ev.bind (LineOf_ev l) ?_; refine Ev.bind (ResidualOf_ev l) ?_; refine Ev.bind (CheckLine_ev l s o d) ?_; refine Ev.bind (ReadingsErr_ev l) ?_
  by_cases h : opE l = 0
  ·obtain ⟨hr, h0⟩ := op_ok h; simp only [h, hr, if_true]; refine Ev.bind (AreEqual_ev hr) ?_; simp only [h0, decide_false]; refine Ev.succ (f := fun k => Lw_TargetLines.j0 k l _ _ _ _ 0 false s o d _ _ _ _ _) ?_; simp only [Lw_TargetLines.j0, Bool.false_eq_true, if_false]; refine Ev.succ (f := fun k => Lw_TargetLines.j1 k l _ _ _ _ 0 s o d _ _ _ _ _) ?_; simp only [Lw_TargetLines.j1, if_true]; refine Ev.bind (Residual_ev hr h0) ?_; refine Ev.bind (Line_ev hr h0) ?_; simp only [beq_self_eq_true, Bool.not_true, Bool.or_self, Bool.false_eq_true, if_false]; have hj : ∀ q : Int × Int, q = (if lE s o d = 0 then clV l s o d else (0, lE s o d)) → Ev (fun k => Lw_TargetLines.j2 k l q.1 q.2 false s o d) true := by
    intro q hq; refine Ev.succ (f := fun k => Lw_TargetLines.j2 k l q.1 q.2 false s o d) ?_; simp only [Lw_TargetLines.j2, Bool.false_eq_true, if_false]; refine Ev.bind (LineErr_ev s o d) ?_
    by_cases hE : lE s o d = 0
    ·rw [if_pos hE] at hq; subst hq; simp only [hE, if_true]; refine Ev.bind (RCheckLine_ev hr hE) ?_; simp only [if_true, beq_self_eq_true]; exact Ev.some
    ·rw [if_neg hE] at hq; subst hq; simp only [hE, if_true, if_false, beq_self_eq_true]; exact Ev.some
   have hj' := hj _ rfl
   by_cases hsm : smallP (rs l)
   ·simp only [hsm, if_true, beq_self_eq_true, Bool.not_true, Bool.or_self, Bool.false_eq_true, if_false]; exact hj'
   ·simp only [hsm, if_true, if_false, beq_self_eq_true, Bool.not_true, Bool.or_self, Bool.false_eq_true]; exact hj'
  ·simp only [h, if_false]; have hend : ∀ c : Int, c = opE l → Ev (fun k => Lw_TargetLines.j1 k l (opE l) (opE l) 0 (opE l) c s o d 0 0 0 0 0) true := by
    intro c hc; subst hc; refine Ev.succ (f := fun k => Lw_TargetLines.j1 k l (opE l) (opE l) 0 (opE l) (opE l) s o d 0 0 0 0 0) ?_; simp only [Lw_TargetLines.j1, h, if_true, if_false, beq_self_eq_true, Bool.and_self]; exact Ev.some
   by_cases hr : rsE l = 0
   ·have h0 : dA l = 0 := by
     unfold opE at h; rw [if_pos hr] at h
     by_cases c : dA l = 0
     ·exact c
     ·rw [if_neg c] at h; exact absurd rfl h
    have he : opE l = 11 := by unfold opE; rw [if_pos hr, if_pos h0]
    simp only [hr, if_true]; refine Ev.bind (AreEqual_ev hr) ?_; simp only [h0, decide_true]; refine Ev.succ (f := fun k => Lw_TargetLines.j0 k l _ _ _ _ 0 true s o d _ _ _ _ _) ?_; simp only [Lw_TargetLines.j0, if_true]; exact hend 11 he.symm
   ·have he : opE l = rsE l := by unfold opE; rw [if_neg hr]
    simp only [hr, if_false]; refine Ev.succ (f := fun k => Lw_TargetLines.j0 k l _ _ _ _ _ false s o d _ _ _ _ _) ?_; simp only [Lw_TargetLines.j0, Bool.false_eq_true, if_false]; exact hend _ he.symm
 ·simp only [hl, if_false]; exact Ev.some
theorem TargetLines_pure (l : List S85) (_ : l.length ≤ maxLen ∧ ∀ x ∈ l, (Lit.int .i64 x.f0).wf = true ∧ (Lit.int .i64 x.f1).wf = true ∧ (Lit.int .i64 x.f2).wf = true) (s : Int) (_ : (Lit.int .i64 s).wf = true) (o : Int) (_ : (Lit.int .i64 o).wf = true) (d : Int) (_ : (Lit.int .i64 d).wf = true) :
  ∃ k, Lw_TargetLines.f k l s o d = some true := (TargetLines_ev l s o d).ex
end Go.Proofs.Ytibhfahbabgbaaa.P
