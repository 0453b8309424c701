/-
PLAIN LAW: what the walks compute answers as the statement says (no program in sight; Ev: from some number of rounds on).
-/
import Derived.Test.YtibhfahbabgbaaaB05
import Derived.Test.YtibhfahbabgbaaaTB03
import Derived.Test.YtibhfahbabgbaaaTB01
import Derived.Test.YtibhfahbabgbaaaTB04
import Derived.Test.YtibhfahbabgbaaaB16
import Derived.Test.YtibhfahbabgbaaaTB05
import Derived.Test.YtibhfahbabgbaaaB08
import Derived.Test.YtibhfahbabgbaaaB10
import Derived.Test.YtibhfahbabgbaaaTB02
import Derived.Test.YtibhfahbabgbaaaB12
import Derived.Test.YtibhfahbabgbaaaB09
namespace Go.Proofs.Ytibhfahbabgbaaa.P
open Go Go.RowKit Go.Proofs.Ytibhfahbabgbaaa.A Go.Proofs.YtibhfahbabgbaaaW.PrintWords Go.Proofs.YtibhfahbabgbaaaW.PrintLast Go.Proofs.YtibhfahbabgbaaaW.PrintMore
set_option linter.unusedSimpArgs false
set_option linter.unusedVariables false
/-- From some number of rounds on, f says r. -/
def Ev {α : Type} (f : Nat → Option α) (r : α) : Prop := ∃ k, ∀ j, k ≤ j → f j = some r

theorem Ev.some {α : Type} {r : α} : Ev (fun _ => Option.some r) r := ⟨0, fun _ _ => rfl⟩
theorem Ev.bind {α β : Type} {f : Nat → Option α} {g : Nat → α → Option β} {a : α} {b : β} (h : Ev f a) (h2 : Ev (fun k => g k a) b) : Ev (fun k => (f k).bind (g k)) b := by
 obtain ⟨k, hk⟩ := h
 obtain ⟨m, hm⟩ := h2
 exact ⟨max k m, fun j hj => by show (f j).bind (g j) = _; rw [hk j (by omega)]; exact hm j (by omega)⟩
theorem Ev.succ {α : Type} {f : Nat → Option α} {r : α} (h : Ev (fun k => f (k + 1)) r) : Ev f r := by
 obtain ⟨k, hk⟩ := h
 exact ⟨k + 1, fun j hj => by obtain ⟨m, rfl⟩ : ∃ m, j = m + 1 := ⟨j - 1, by omega⟩; exact hk m (by omega)⟩
theorem Ev.ex {α : Type} {f : Nat → Option α} {r : α} (h : Ev f r) : ∃ k, f k = Option.some r := let ⟨k, hk⟩ := h; ⟨k, hk k (Nat.le_refl _)⟩
theorem Ev.of_mono {α : Type} {f : Nat → Option α} {r : α} (hm : ∀ k, LeO (f k) (f (k + 1))) {k : Nat} (h : f k = Option.some r) : Ev f r := by
  refine ⟨k, fun j hj => ?_⟩
  induction j with
  | zero => obtain rfl : k = 0 := by omega
            exact h
  | succ j ih =>
    by_cases e : k = j + 1
    · subst e; exact h
    · exact hm j r (ih (by omega))
theorem up {i : Nat} (h : i < 4611686018427387904) : wrap64 ((i : Int) + 1) = ((i + 1 : Nat) : Int) := by
 unfold wrap64; omega
theorem w64 {n : Int} (h : -9223372036854775808 ≤ n ∧ n ≤ 9223372036854775807) : wrap64 n = n := by unfold wrap64; omega
theorem rd_nat (l : List Int) (i : Nat) : rd l (i : Int) = l.getD i 0 := by unfold rd; simp
theorem drop_rd {l : List Int} {i : Nat} (h : i < l.length) : l.drop i = rd l (i : Int) :: l.drop (i + 1) := by
 rw [rd_nat, List.drop_eq_getElem_cons h]
 simp [List.getD_eq_getElem?_getD, h]
theorem drop_getD {α : Type} {l : List α} {i : Nat} (z : α) (h : i < l.length) : l.drop i = l.getD i z :: l.drop (i + 1) := by
 rw [List.drop_eq_getElem_cons h]
 simp [List.getD_eq_getElem?_getD, h]

theorem mx_eq (a b : Int) : mx a b = max a b := by unfold mx; split <;> omega
theorem within_eq (a b c : Int) : L_within.f a b c = some (decide (b ≤ a ∧ a ≤ c)) := by
 unfold L_within.f
 by_cases h : b ≤ a <;> simp [h]
theorem Within_eq (a b c : Int) : Bs_Within.f a b c = some (decide (b ≤ a ∧ a ≤ c)) := by
 unfold Bs_Within.f
 by_cases h : b ≤ a <;> simp [h]
theorem unless_eq (b : Bool) (e : Int) : L_unless.f b e = some (if b = true then 0 else e) := by
 unfold L_unless.f
 cases b <;> simp
theorem Size_eq (a : Int) : Bs_Size.f a = some (mx a (wrap64 (-a))) := rfl

/-- The first number that is not 0. -/
def fnz : List Int → Int
 | [] => 0
 | x :: r => if x = 0 then fnz r else x

theorem first_l0 (l : List Int) (hl : l.length < 4611686018427387904) : ∀ (n i : Nat), i + n = l.length → Ev (fun k => L_first.l0 k l (l.length : Int) (i : Int)) (fnz (l.drop i))
 | 0, i, h => by
  refine Ev.succ (f := fun k => L_first.l0 k l (l.length : Int) (i : Int)) ?_
  have h1 : ¬ (i : Int) < (l.length : Int) := by omega
  simp only [L_first.l0, h1, if_false]
  rw [show l.drop i = [] from List.drop_eq_nil_of_le (by omega)]
  exact Ev.some
 | n + 1, i, h => by
  refine Ev.succ (f := fun k => L_first.l0 k l (l.length : Int) (i : Int)) ?_
  have h1 : (i : Int) < (l.length : Int) := by omega
  have h2 : (0 : Int) ≤ (i : Int) := by omega
  simp only [L_first.l0, h1, h2, if_true, up (show i < 4611686018427387904 by omega)]
  rw [drop_rd (show i < l.length by omega)]
  unfold fnz
  by_cases e : rd l (i : Int) = 0
  ·simp only [e, if_true]
   exact first_l0 l hl n (i + 1) (by omega)
  ·simp only [e, if_false]
   exact Ev.some
theorem first_ev (l : List Int) (hl : l.length < 4611686018427387904) : Ev (fun k => L_first.f k l) (fnz l) := first_l0 l hl l.length 0 (by omega)

theorem floor_core {a b : Int} (hb : 0 < b) (ha : -4611686018427387904 ≤ a ∧ a ≤ 4611686018427387904) :
  (if Int.tmod a b < 0 then some (wrap64 (wrap64 (Int.tdiv a b) - 1)) else some (wrap64 (Int.tdiv a b))) = some (a / b) := by
 have h1 : a.tdiv b * b + a.tmod b = a := Int.tdiv_mul_add_tmod a b
 have h2 : a / b * b + a % b = a := Int.ediv_mul_add_emod a b
 have h3 := Int.emod_nonneg a (show b ≠ 0 by omega)
 have h4 := Int.emod_lt_of_pos a hb
 have h5 : (a.tmod b).natAbs < b.natAbs := by rw [Int.natAbs_tmod]; exact Nat.mod_lt _ (by omega)
 have h6 : (a.tdiv b).natAbs ≤ a.natAbs := by rw [Int.natAbs_tdiv]; exact Nat.div_le_self _ _
 have key : ∀ q r p s : Int, q * b + r = p * b + s → -b < r → r < b → 0 ≤ s → s < b → (r < 0 → p = q - 1) ∧ (0 ≤ r → p = q) := by
  intro q r p s h hr1 hr2 hs1 hs2
  have e : (q - p) * b = s - r := by rw [Int.sub_mul]; omega
  constructor
  ·intro hr
   have u1 : 0 < q - p := by
    apply Int.lt_of_not_ge; intro hc
    have := Int.mul_le_mul_of_nonneg_right hc (show 0 ≤ b by omega)
    omega
   have u2 : q - p < 2 := by
    apply Int.lt_of_not_ge; intro hc
    have := Int.mul_le_mul_of_nonneg_right hc (show 0 ≤ b by omega)
    omega
   omega
  ·intro hr
   have u1 : -1 < q - p := by
    apply Int.lt_of_not_ge; intro hc
    have := Int.mul_le_mul_of_nonneg_right hc (show 0 ≤ b by omega)
    omega
   have u2 : q - p < 1 := by
    apply Int.lt_of_not_ge; intro hc
    have := Int.mul_le_mul_of_nonneg_right hc (show 0 ≤ b by omega)
    omega
   omega
 obtain ⟨k1, k2⟩ := key (a.tdiv b) (a.tmod b) (a / b) (a % b) (by omega) (by omega) (by omega) h3 h4
 by_cases hr : a.tmod b < 0
 ·rw [if_pos hr, k1 hr, w64 (n := a.tdiv b) (by omega), w64 (by omega)]
 ·rw [if_neg hr, k2 (by omega), w64 (by omega)]
theorem Floor_eq {a b : Int} (hb : 0 < b) (ha : -4611686018427387904 ≤ a ∧ a ≤ 4611686018427387904) : Bs_Floor.f a b = some (a / b) := by
 unfold Bs_Floor.f; rw [if_neg (by omega)]; exact floor_core hb ha
theorem gcd_lt {x y M : Nat} (hx : x < M) (hy : y < M) : Nat.gcd x y < M := by
 by_cases h : y = 0
 ·subst h; simpa using hx
 ·exact Nat.lt_of_le_of_lt (Nat.gcd_le_right x (by omega)) hy
theorem size_abs {x : Int} (h : -9223372036854775807 ≤ x ∧ x ≤ 9223372036854775807) : mx x (wrap64 (-x)) = (x.natAbs : Int) := by
 rw [w64 (n := -x) (by omega), mx_eq]; omega
theorem gcd_step (x y : Int) : Int.gcd y (x.tmod y) = Int.gcd x y := by
 show Nat.gcd y.natAbs (x.tmod y).natAbs = Nat.gcd x.natAbs y.natAbs
 rw [Int.natAbs_tmod, Nat.gcd_comm, ← Nat.gcd_rec, Nat.gcd_comm]
theorem tmod_in {x y : Int} (h0 : y ≠ 0) : (x.tmod y).natAbs < y.natAbs := by
 rw [Int.natAbs_tmod]
 exact Nat.mod_lt _ (by omega)
theorem Gcd_l0 : ∀ (m : Nat) (x y : Int), y.natAbs ≤ m → x.natAbs < 9223372036854775808 → y.natAbs < 9223372036854775808 → Ev (fun k => Bs_Gcd.l0 k x y) (Int.gcd x y : Int)
 | 0, x, y, h, hx, _ => by
  refine Ev.succ (f := fun k => Bs_Gcd.l0 k x y) ?_
  obtain rfl : y = 0 := by omega
  simp only [Bs_Gcd.l0, if_true, Size_eq, Option.bind_some, size_abs (x := x) (by omega), Int.gcd_zero_right]
  exact Ev.some
 | m + 1, x, y, h, hx, hy => by
  refine Ev.succ (f := fun k => Bs_Gcd.l0 k x y) ?_
  by_cases h0 : y = 0
  ·subst h0
   simp only [Bs_Gcd.l0, if_true, Size_eq, Option.bind_some, size_abs (x := x) (by omega), Int.gcd_zero_right]
   exact Ev.some
  ·simp only [Bs_Gcd.l0, h0, if_false]
   have ht := tmod_in (x := x) h0
   rw [← gcd_step x y]
   exact Gcd_l0 m y (x.tmod y) (by omega) hy (by omega)
theorem Gcd_ev {x y : Int} (hx : x.natAbs < 9223372036854775808) (hy : y.natAbs < 9223372036854775808) : Ev (fun k => Bs_Gcd.f k x y) (Int.gcd x y : Int) := Gcd_l0 _ x y (Nat.le_refl _) hx hy
theorem div_l1 : ∀ (m : Nat) (x y : Int), y.natAbs ≤ m → x.natAbs < 9223372036854775808 → y.natAbs < 9223372036854775808 →
  ∃ d : Int, d.natAbs = Int.gcd x y ∧ ∀ (l : List Int) (len i r : Int), Ev (fun k => L_divisor.l0 k d l len (wrap64 (i + 1))) r → Ev (fun k => L_divisor.l1 k x y l len i) r
 | 0, x, y, h, hx, _ => by
  obtain rfl : y = 0 := by omega
  refine ⟨x, by simp, fun l len i r h => ?_⟩
  refine Ev.succ (f := fun k => L_divisor.l1 k x 0 l len i) ?_
  simp only [L_divisor.l1, if_true]; exact h
 | m + 1, x, y, h, hx, hy => by
  by_cases h0 : y = 0
  ·subst h0
   refine ⟨x, by simp, fun l len i r h => ?_⟩
   refine Ev.succ (f := fun k => L_divisor.l1 k x 0 l len i) ?_
   simp only [L_divisor.l1, if_true]; exact h
  ·have ht := tmod_in (x := x) h0
   obtain ⟨d, hd, hE⟩ := div_l1 m y (x.tmod y) (by omega) hy (by omega)
   refine ⟨d, by rw [hd]; exact gcd_step x y, fun l len i r h => ?_⟩
   refine Ev.succ (f := fun k => L_divisor.l1 k x y l len i) ?_
   simp only [L_divisor.l1, h0, if_false]
   exact hE l len i r h
/-- The greatest common divisor of a list. -/
def gcds : Nat → List Int → Nat
 | g, [] => g
 | g, x :: r => gcds (Nat.gcd g x.natAbs) r
theorem divisor_l0 (l : List Int) (hl : l.length < 4611686018427387904) (hb : ∀ x ∈ l, x.natAbs < 9223372036854775808) : ∀ (n i : Nat) (g : Int), i + n = l.length → g.natAbs < 9223372036854775808 →
  Ev (fun k => L_divisor.l0 k g l (l.length : Int) (i : Int)) (gcds g.natAbs (l.drop i) : Int)
 | 0, i, g, h, hg => by
  refine Ev.succ (f := fun k => L_divisor.l0 k g l (l.length : Int) (i : Int)) ?_
  simp only [L_divisor.l0, show ¬ (i : Int) < (l.length : Int) by omega, if_false, size_abs (x := g) (by omega)]
  rw [show l.drop i = [] from List.drop_eq_nil_of_le (by omega)]
  exact Ev.some
 | n + 1, i, g, h, hg => by
  refine Ev.succ (f := fun k => L_divisor.l0 k g l (l.length : Int) (i : Int)) ?_
  simp only [L_divisor.l0, show (i : Int) < (l.length : Int) by omega, show (0 : Int) ≤ (i : Int) by omega, if_true]
  have hm : rd l (i : Int) ∈ l := by
   have : rd l (i : Int) ∈ l.drop i := by rw [drop_rd (show i < l.length by omega)]; exact List.mem_cons_self
   exact List.mem_of_mem_drop this
  have hx := hb _ hm
  rw [drop_rd (show i < l.length by omega)]
  obtain ⟨d, hd, hE⟩ := div_l1 _ g (rd l (i : Int)) (Nat.le_refl _) hg hx
  refine hE _ _ _ _ ?_
  rw [up (show i < 4611686018427387904 by omega)]
  have hd' : d.natAbs < 9223372036854775808 := by rw [hd]; exact gcd_lt hg hx
  have := divisor_l0 l hl hb n (i + 1) d (by omega) hd'
  rw [hd] at this
  exact this
theorem divisor_ev (l : List Int) (hl : l.length < 4611686018427387904) (hb : ∀ x ∈ l, x.natAbs < 9223372036854775808) : Ev (fun k => L_divisor.f k l) (gcds 0 l : Int) :=
 divisor_l0 l hl hb l.length 0 0 (by omega) (by simp)
theorem rd85_drop {l : List S85} {i : Nat} (h : i < l.length) : l.drop i = rd_T85 l (i : Int) :: l.drop (i + 1) := by
 rw [drop_getD z85 h]; rfl
theorem rd85_mem {l : List S85} {i : Nat} (h : i < l.length) : rd_T85 l (i : Int) ∈ l := by
 have : rd_T85 l (i : Int) ∈ l.drop i := by rw [rd85_drop h]; exact List.mem_cons_self
 exact List.mem_of_mem_drop this
theorem rd85_getElem {l : List S85} {i : Nat} (h : i < l.length) : rd_T85 l (i : Int) = l[i] := by
 unfold rd_T85
 simp [List.getD_eq_getElem?_getD, h]
def okR (t : S85) : Prop := (0 ≤ t.f0 ∧ t.f0 ≤ 2000) ∧ (0 ≤ t.f1 ∧ t.f1 ≤ 2000) ∧ (0 ≤ t.f2 ∧ t.f2 ≤ 1000)
instance (t : S85) : Decidable (okR t) := by unfold okR; infer_instance
def ckF (l : List S85) : Nat → Nat → Int × Int
 | 0, _ => (0, 0)
 | n + 1, i => if okR (rd_T85 l (i : Int)) then ckF l n (i + 1) else ((i : Int), 2)
/-- The index and the error of readings. -/
def ckR (l : List S85) : Int × Int := if l.length = 0 then (0, 10) else if 8 < l.length then (0, 8) else ckF l l.length 0
theorem ckR1_eq (x : Int) : L_CheckReadings_1.f x = some (decide (0 ≤ x ∧ x ≤ 2000)) := by
 unfold L_CheckReadings_1.f
 rw [within_eq]; rfl
theorem CheckReadings_l0 (l : List S85) (hl : l.length ≤ 8) : ∀ (n i : Nat), i + n = l.length → Ev (fun k => L_CheckReadings.l0 k l (l.length : Int) (i : Int)) (ckF l n i) ∧ Ev (fun k => Rf_CheckReadings.l0 k l (i : Int)) (ckF l n i)
 | 0, i, h => by
  constructor
  ·refine Ev.succ (f := fun k => L_CheckReadings.l0 k l (l.length : Int) (i : Int)) ?_
   simp only [L_CheckReadings.l0, show ¬ (i : Int) < (l.length : Int) by omega, if_false, ckF]
   exact Ev.some
  ·refine Ev.succ (f := fun k => Rf_CheckReadings.l0 k l (i : Int)) ?_
   simp only [Rf_CheckReadings.l0, show ¬ (i : Int) < (l.length : Int) by omega, if_false, ckF]
   exact Ev.some
 | n + 1, i, h => by
  have ih := CheckReadings_l0 l hl n (i + 1) (by omega)
  have e : ckF l (n + 1) i = if okR (rd_T85 l (i : Int)) then ckF l n (i + 1) else ((i : Int), 2) := rfl
  constructor
  ·refine Ev.succ (f := fun k => L_CheckReadings.l0 k l (l.length : Int) (i : Int)) ?_
   rw [e]
   simp only [L_CheckReadings.l0, show (i : Int) < (l.length : Int) by omega, show (0 : Int) ≤ (i : Int) by omega, if_true, ckR1_eq, within_eq, Option.bind_some, up (show i < 4611686018427387904 by omega), decide_eq_true_eq]
   unfold okR
   by_cases h1 : 0 ≤ (rd_T85 l (i : Int)).f0 ∧ (rd_T85 l (i : Int)).f0 ≤ 2000
   ·by_cases h2 : 0 ≤ (rd_T85 l (i : Int)).f1 ∧ (rd_T85 l (i : Int)).f1 ≤ 2000
    ·by_cases h3 : 0 ≤ (rd_T85 l (i : Int)).f2 ∧ (rd_T85 l (i : Int)).f2 ≤ 1000
     ·simp only [h1, h2, h3, and_self, if_true]; exact ih.1
     ·simp only [h1, h2, h3, and_self, and_false, if_true, if_false]; exact Ev.some
    ·simp only [h1, h2, false_and, and_false, and_self, if_true, if_false]; exact Ev.some
   ·simp only [h1, false_and, if_false]; exact Ev.some
  ·refine Ev.succ (f := fun k => Rf_CheckReadings.l0 k l (i : Int)) ?_
   rw [e]
   simp only [Rf_CheckReadings.l0, show (i : Int) < (l.length : Int) by omega, show (0 : Int) ≤ (i : Int) by omega, if_true, Within_eq, Option.bind_some, up (show i < 4611686018427387904 by omega), decide_eq_true_eq]
   unfold okR
   by_cases h1 : 0 ≤ (rd_T85 l (i : Int)).f0 ∧ (rd_T85 l (i : Int)).f0 ≤ 2000
   ·by_cases h2 : 0 ≤ (rd_T85 l (i : Int)).f1 ∧ (rd_T85 l (i : Int)).f1 ≤ 2000
    ·by_cases h3 : 0 ≤ (rd_T85 l (i : Int)).f2 ∧ (rd_T85 l (i : Int)).f2 ≤ 1000
     ·simp only [h1, h2, h3, and_self, if_true]; exact ih.2
     ·simp only [h1, h2, h3, and_self, and_false, if_true, if_false]; exact Ev.some
    ·simp only [h1, h2, false_and, and_false, and_self, if_true, if_false]; exact Ev.some
   ·simp only [h1, false_and, if_false]; exact Ev.some
theorem CheckReadings_ev (l : List S85) : Ev (fun k => L_CheckReadings.f k l) (ckR l) := by
 unfold L_CheckReadings.f ckR
 simp only [unless_eq, Option.bind_some, decide_eq_true_eq]
 refine Ev.bind (first_ev _ (by simp)) ?_
 by_cases h0 : l.length = 0
 ·simp only [h0, show ¬ (((0 : Nat) : Int) > 0) by omega, if_false, if_true, fnz, show ¬ (10 : Int) = 0 by decide]; exact Ev.some
 ·by_cases h1 : 8 < l.length
  ·simp only [h0, h1, show (l.length : Int) > 0 by omega, show ¬ (l.length : Int) ≤ 8 by omega, if_false, if_true, fnz, show ¬ (8 : Int) = 0 by decide]; exact Ev.some
  ·simp only [h0, h1, show (l.length : Int) > 0 by omega, show (l.length : Int) ≤ 8 by omega, if_false, if_true, fnz]
   exact (CheckReadings_l0 l (by omega) l.length 0 (by omega)).1
theorem RCheckReadings_ev (l : List S85) : Ev (fun k => Rf_CheckReadings.f k l) (ckR l) := by
 unfold Rf_CheckReadings.f ckR
 by_cases h0 : l.length = 0
 ·simp only [h0, show (((0 : Nat) : Int) = 0) by rfl, if_true]; exact Ev.some
 ·by_cases h1 : 8 < l.length
  ·simp only [h0, h1, show ¬ (l.length : Int) = 0 by omega, show (l.length : Int) > 8 by omega, if_false, if_true]; exact Ev.some
  ·simp only [h0, h1, show ¬ (l.length : Int) = 0 by omega, show ¬ (l.length : Int) > 8 by omega, if_false]
   exact (CheckReadings_l0 l (by omega) l.length 0 (by omega)).2
/-- The error of readings. -/
def rsE (l : List S85) : Int := (ckR l).2
theorem readingsErr_ev (l : List S85) : Ev (fun k => L_readingsErr.f k l) (rsE l) := Ev.bind (CheckReadings_ev l) Ev.some
theorem ReadingsErr_ev (l : List S85) : Ev (fun k => Rf_ReadingsErr.f k l) (rsE l) := Ev.bind (RCheckReadings_ev l) Ev.some
theorem ckF_ok (l : List S85) : ∀ (n i : Nat), (ckF l n i).2 = 0 → ∀ j, i ≤ j → j < i + n → okR (rd_T85 l (j : Int))
 | 0, i, _, j, h1, h2 => by omega
 | n + 1, i, h, j, h1, h2 => by
  unfold ckF at h
  by_cases e : okR (rd_T85 l (i : Int))
  ·rw [if_pos e] at h
   by_cases hj : j = i
   ·rw [hj]; exact e
   ·exact ckF_ok l n (i + 1) h j (by omega) (by omega)
  ·rw [if_neg e] at h; cases h
/-- Valid readings. -/
theorem readings_ok {l : List S85} (h : rsE l = 0) : 1 ≤ l.length ∧ l.length ≤ 8 ∧ ∀ t ∈ l, okR t := by
 unfold rsE ckR at h
 by_cases h0 : l.length = 0
 ·rw [if_pos h0] at h; cases h
 ·rw [if_neg h0] at h
  by_cases h1 : 8 < l.length
  ·rw [if_pos h1] at h; cases h
  ·rw [if_neg h1] at h
   refine ⟨by omega, by omega, fun t ht => ?_⟩
   obtain ⟨i, hi, rfl⟩ := List.getElem_of_mem ht
   rw [← rd85_getElem hi]
   exact ckF_ok l l.length 0 h i (by omega) (by omega)
theorem CopyReadings_eq (l : List S85) (h : l.length < 5864062014805) : Rf_CopyReadings.f l = some l := by
 unfold Rf_CopyReadings.f
 simp [h]
theorem few_eq (l : List S85) : Lw_few.f l = some (decide ((l.length : Int) ≤ 10)) := rfl

/-- The greatest common divisor of three numbers. -/
def g3 (s o d : Int) : Nat := Nat.gcd (Nat.gcd s.natAbs o.natAbs) d.natAbs
def lE (s o d : Int) : Int :=
 if (1 ≤ d ∧ d ≤ 1000000000) ∧ (-1000000000 ≤ s ∧ s ≤ 1000000000) ∧ (-1000000000000 ≤ o ∧ o ≤ 1000000000000) then (if g3 s o d = 1 then 0 else 3) else 2
theorem gcds3 (s o d : Int) : gcds 0 [s, o, d] = g3 s o d := by simp [gcds, g3]
theorem isSized_eq {a m : Int} (hm : 0 ≤ m ∧ m ≤ 4611686018427387904) : L_isSized.f a m = some (decide (-m ≤ a ∧ a ≤ m)) := by
 unfold L_isSized.f
 rw [w64 (n := -m) (by omega), within_eq]; rfl
theorem lineErr_j0 (s o d : Int) (hs : -1000000000 ≤ s ∧ s ≤ 1000000000) (ho : -1000000000000 ≤ o ∧ o ≤ 1000000000000) (hd : 1 ≤ d ∧ d ≤ 1000000000) : Ev (fun k => L_lineErr.j0 k true s o d) (if g3 s o d = 1 then 0 else 3) := by
 refine Ev.succ (f := fun k => L_lineErr.j0 k true s o d) ?_
 simp only [L_lineErr.j0, if_true]
 refine Ev.bind (divisor_ev _ (by simp) (by simp; omega)) ?_
 rw [gcds3]
 simp only [unless_eq, Option.bind_some]
 by_cases h : g3 s o d = 1
 ·simp only [h, if_true, beq_self_eq_true, show (((1 : Nat) : Int) == 1) = true from rfl]; exact Ev.some
 ·have : (((g3 s o d : Nat) : Int) == 1) = false := beq_eq_false_iff_ne.mpr (by omega)
  simp only [h, this, if_false, Bool.false_eq_true]; exact Ev.some
theorem lineErr_ev (s o d : Int) : Ev (fun k => L_lineErr.f k s o d) (lE s o d) := by
 have hj : Ev (fun k => L_lineErr.j0 k false s o d) 2 := by
  refine Ev.succ (f := fun k => L_lineErr.j0 k false s o d) ?_
  simp only [L_lineErr.j0, Bool.false_eq_true, if_false]; exact Ev.some
 unfold L_lineErr.f lE
 simp only [within_eq, isSized_eq (m := 1000000000) (by omega), isSized_eq (m := 1000000000000) (by omega), Option.bind_some]
 by_cases h1 : 1 ≤ d ∧ d ≤ 1000000000
 ·by_cases h2 : -1000000000 ≤ s ∧ s ≤ 1000000000
  ·by_cases h3 : -1000000000000 ≤ o ∧ o ≤ 1000000000000
   ·simp only [h1, h2, h3, and_self, decide_true, if_true]
    exact lineErr_j0 s o d h2 h3 h1
   ·simp only [h1, h2, h3, and_self, and_false, decide_true, decide_false, if_true, if_false]; exact hj
  ·simp only [h1, h2, and_self, false_and, and_false, decide_true, decide_false, if_true, if_false, Bool.false_eq_true]; exact hj
 ·simp only [h1, false_and, decide_false, if_false, Bool.false_eq_true]; exact hj
theorem g3_comm (s o d : Int) : Int.gcd d (Int.gcd s o : Nat) = g3 s o d := by
 show Nat.gcd d.natAbs (((Int.gcd s o : Nat) : Int)).natAbs = _
 rw [Int.natAbs_natCast, Nat.gcd_comm]; rfl
theorem LineErr_j0 (s o d : Int) (hs : -1000000000 ≤ s ∧ s ≤ 1000000000) (ho : -1000000000000 ≤ o ∧ o ≤ 1000000000000) (hd : 1 ≤ d ∧ d ≤ 1000000000) : Ev (fun k => Rf_LineErr.j0 k false s o d) (if g3 s o d = 1 then 0 else 3) := by
 refine Ev.succ (f := fun k => Rf_LineErr.j0 k false s o d) ?_
 simp only [Rf_LineErr.j0, Bool.false_eq_true, if_false]
 refine Ev.bind (Gcd_ev (by omega) (by omega)) ?_
 have hg : (((Int.gcd s o : Nat) : Int)).natAbs < 9223372036854775808 := by rw [Int.natAbs_natCast]; exact gcd_lt (by omega) (by omega)
 refine Ev.bind (Gcd_ev (by omega) hg) ?_
 rw [g3_comm]
 by_cases h : g3 s o d = 1
 ·simp only [h, if_true, show ((1 : Nat) : Int) = 1 from rfl]; exact Ev.some
 ·simp only [h, show ¬ ((g3 s o d : Nat) : Int) = 1 by omega, if_false]; exact Ev.some
theorem LineErr_ev (s o d : Int) : Ev (fun k => Rf_LineErr.f k s o d) (lE s o d) := by
 have hj : Ev (fun k => Rf_LineErr.j0 k true s o d) 2 := by
  refine Ev.succ (f := fun k => Rf_LineErr.j0 k true s o d) ?_
  simp only [Rf_LineErr.j0, if_true]; exact Ev.some
 unfold Rf_LineErr.f lE
 simp only [Within_eq, Option.bind_some]
 by_cases h1 : 1 ≤ d ∧ d ≤ 1000000000
 ·by_cases h2 : -1000000000 ≤ s ∧ s ≤ 1000000000
  ·by_cases h3 : -1000000000000 ≤ o ∧ o ≤ 1000000000000
   ·simp only [h1, h2, h3, and_self, decide_true, if_true, Bool.not_true]
    exact LineErr_j0 s o d h2 h3 h1
   ·simp only [h1, h2, h3, and_self, and_false, decide_true, decide_false, if_true, if_false, Bool.not_false]; exact hj
  ·simp only [h1, h2, and_self, false_and, and_false, decide_true, decide_false, if_true, if_false, Bool.false_eq_true]; exact hj
 ·simp only [h1, false_and, decide_false, if_false, Bool.false_eq_true]; exact hj
def sX : List S85 → Int
 | [] => 0
 | t :: r => t.f0 + sX r
def sY : List S85 → Int
 | [] => 0
 | t :: r => t.f1 + sY r
def sXX : List S85 → Int
 | [] => 0
 | t :: r => t.f0 * t.f0 + sXX r
def sXY : List S85 → Int
 | [] => 0
 | t :: r => t.f0 * t.f1 + sXY r
def sYY : List S85 → Int
 | [] => 0
 | t :: r => t.f1 * t.f1 + sYY r
theorem p2k {x y : Int} (hx : 0 ≤ x ∧ x ≤ 2000) (hy : 0 ≤ y ∧ y ≤ 2000) : 0 ≤ x * y ∧ x * y ≤ 4000000 := by
 have h1 : x * y ≤ 2000 * y := Int.mul_le_mul_of_nonneg_right hx.2 hy.1
 exact ⟨Int.mul_nonneg hx.1 hy.1, by omega⟩
theorem sums_in : ∀ r : List S85, (∀ t ∈ r, okR t) → (0 ≤ sX r ∧ sX r ≤ 2000 * (r.length : Int)) ∧ (0 ≤ sY r ∧ sY r ≤ 2000 * (r.length : Int)) ∧ (0 ≤ sXX r ∧ sXX r ≤ 4000000 * (r.length : Int)) ∧ (0 ≤ sXY r ∧ sXY r ≤ 4000000 * (r.length : Int)) ∧ (0 ≤ sYY r ∧ sYY r ≤ 4000000 * (r.length : Int))
 | [], _ => by simp [sX, sY, sXX, sXY, sYY]
 | t :: r, h => by
  have ih := sums_in r (fun x hx => h x (List.mem_cons_of_mem _ hx))
  have ht := h t List.mem_cons_self
  have a := p2k ht.1 ht.1
  have b := p2k ht.1 ht.2.1
  have c := p2k ht.2.1 ht.2.1
  have d0 := ht.1; have d1 := ht.2.1
  simp only [sX, sY, sXX, sXY, sYY, List.length_cons]
  omega
theorem sumsOf_l0 (l : List S85) (hl : l.length ≤ 8) (hk : ∀ t ∈ l, okR t) : ∀ (n i : Nat) (x y xx xy yy : Int), i + n = l.length → (0 ≤ x ∧ x ≤ 2000 * (i : Int)) → (0 ≤ y ∧ y ≤ 2000 * (i : Int)) → (0 ≤ xx ∧ xx ≤ 4000000 * (i : Int)) → (0 ≤ xy ∧ xy ≤ 4000000 * (i : Int)) → (0 ≤ yy ∧ yy ≤ 4000000 * (i : Int)) →
  Ev (fun k => L_sumsOf.l0 k l (l.length : Int) (i : Int) (i : Int) x y xx xy yy) ((l.length : Int), x + sX (l.drop i), y + sY (l.drop i), xx + sXX (l.drop i), xy + sXY (l.drop i), yy + sYY (l.drop i))
 | 0, i, x, y, xx, xy, yy, h, _, _, _, _, _ => by
  refine Ev.succ (f := fun k => L_sumsOf.l0 k l (l.length : Int) (i : Int) (i : Int) x y xx xy yy) ?_
  simp only [L_sumsOf.l0, show ¬ (i : Int) < (l.length : Int) by omega, if_false]
  rw [show l.drop i = [] from List.drop_eq_nil_of_le (by omega), show (i : Int) = (l.length : Int) by omega]
  simp only [sX, sY, sXX, sXY, sYY, Int.add_zero]
  exact Ev.some
 | n + 1, i, x, y, xx, xy, yy, h, hx, hy, hxx, hxy, hyy => by
  refine Ev.succ (f := fun k => L_sumsOf.l0 k l (l.length : Int) (i : Int) (i : Int) x y xx xy yy) ?_
  have hi : i < l.length := by omega
  have ht := hk _ (rd85_mem hi)
  rw [rd85_drop hi]
  obtain ⟨t, ht0⟩ : ∃ t, t = rd_T85 l (i : Int) := ⟨_, rfl⟩
  rw [← ht0] at ht ⊢
  have a := p2k ht.1 ht.1
  have b := p2k ht.1 ht.2.1
  have c := p2k ht.2.1 ht.2.1
  have d0 := ht.1; have d1 := ht.2.1
  have ih := sumsOf_l0 l hl hk n (i + 1) (x + t.f0) (y + t.f1) (xx + t.f0 * t.f0) (xy + t.f0 * t.f1) (yy + t.f1 * t.f1) (by omega) (by omega) (by omega) (by omega) (by omega) (by omega)
  simp only [L_sumsOf.l0, show (i : Int) < (l.length : Int) by omega, show (0 : Int) ≤ (i : Int) by omega, if_true, ← ht0, up (show i < 4611686018427387904 by omega), w64 (n := t.f0 * t.f0) (by omega), w64 (n := t.f0 * t.f1) (by omega), w64 (n := t.f1 * t.f1) (by omega), w64 (n := x + t.f0) (by omega), w64 (n := y + t.f1) (by omega), w64 (n := xx + t.f0 * t.f0) (by omega), w64 (n := xy + t.f0 * t.f1) (by omega), w64 (n := yy + t.f1 * t.f1) (by omega), sX, sY, sXX, sXY, sYY]
  rw [← Int.add_assoc, ← Int.add_assoc, ← Int.add_assoc, ← Int.add_assoc, ← Int.add_assoc]
  exact ih
/-- n times the sum of squares of distances minus the square of their sum, and so on. -/
def dA (l : List S85) : Int := (l.length : Int) * sXX l - sX l * sX l
def dB (l : List S85) : Int := (l.length : Int) * sXY l - sX l * sY l
def dQ (l : List S85) : Int := (l.length : Int) * sYY l - sY l * sY l
def dC (l : List S85) : Int := sY l * sXX l - sX l * sXY l
theorem mulN {a b A B : Int} (ha : 0 ≤ a ∧ a ≤ A) (hb : 0 ≤ b ∧ b ≤ B) : 0 ≤ a * b ∧ a * b ≤ A * B := by
 have h1 : a * b ≤ A * b := Int.mul_le_mul_of_nonneg_right ha.2 hb.1
 have h2 : A * b ≤ A * B := Int.mul_le_mul_of_nonneg_left hb.2 (by omega)
 exact ⟨Int.mul_nonneg ha.1 hb.1, by omega⟩
/-- The products of sums are small. -/
theorem prods_in {l : List S85} (hl : l.length ≤ 8) (hk : ∀ t ∈ l, okR t) :
  (0 ≤ (l.length : Int) * sXX l ∧ (l.length : Int) * sXX l ≤ 256000000) ∧ (0 ≤ sX l * sX l ∧ sX l * sX l ≤ 256000000) ∧ (0 ≤ (l.length : Int) * sXY l ∧ (l.length : Int) * sXY l ≤ 256000000) ∧ (0 ≤ sX l * sY l ∧ sX l * sY l ≤ 256000000) ∧
  (0 ≤ (l.length : Int) * sYY l ∧ (l.length : Int) * sYY l ≤ 256000000) ∧ (0 ≤ sY l * sY l ∧ sY l * sY l ≤ 256000000) ∧ (0 ≤ sY l * sXX l ∧ sY l * sXX l ≤ 512000000000) ∧ (0 ≤ sX l * sXY l ∧ sX l * sXY l ≤ 512000000000) := by
 obtain ⟨h1, h2, h3, h4, h5⟩ := sums_in l hk
 have n8 : 0 ≤ (l.length : Int) ∧ (l.length : Int) ≤ 8 := by omega
 have x8 : 0 ≤ sX l ∧ sX l ≤ 16000 := by omega
 have y8 : 0 ≤ sY l ∧ sY l ≤ 16000 := by omega
 have xx8 : 0 ≤ sXX l ∧ sXX l ≤ 32000000 := by omega
 have xy8 : 0 ≤ sXY l ∧ sXY l ≤ 32000000 := by omega
 have yy8 : 0 ≤ sYY l ∧ sYY l ≤ 32000000 := by omega
 exact ⟨mulN n8 xx8, mulN x8 x8, mulN n8 xy8, mulN x8 y8, mulN n8 yy8, mulN y8 y8, mulN y8 xx8, mulN x8 xy8⟩
theorem spread_eq {l : List S85} (hl : l.length ≤ 8) (hk : ∀ t ∈ l, okR t) : L_sums_spread.f (l.length : Int) (sX l) (sY l) (sXX l) (sXY l) (sYY l) = some (dA l) := by
 obtain ⟨h1, h2, h3, h4, h5, h6, h7, h8⟩ := prods_in hl hk
 unfold L_sums_spread.f dA
 rw [w64 (n := (l.length : Int) * sXX l) (by omega), w64 (n := sX l * sX l) (by omega), w64 (by omega)]
theorem shared_eq {l : List S85} (hl : l.length ≤ 8) (hk : ∀ t ∈ l, okR t) : L_sums_shared.f (l.length : Int) (sX l) (sY l) (sXX l) (sXY l) (sYY l) = some (dB l) := by
 obtain ⟨h1, h2, h3, h4, h5, h6, h7, h8⟩ := prods_in hl hk
 unfold L_sums_shared.f dB
 rw [w64 (n := (l.length : Int) * sXY l) (by omega), w64 (n := sX l * sY l) (by omega), w64 (by omega)]
theorem square_eq {l : List S85} (hl : l.length ≤ 8) (hk : ∀ t ∈ l, okR t) : L_sums_square.f (l.length : Int) (sX l) (sY l) (sXX l) (sXY l) (sYY l) = some (dQ l) := by
 obtain ⟨h1, h2, h3, h4, h5, h6, h7, h8⟩ := prods_in hl hk
 unfold L_sums_square.f dQ
 rw [w64 (n := (l.length : Int) * sYY l) (by omega), w64 (n := sY l * sY l) (by omega), w64 (by omega)]
theorem dABC_in {l : List S85} (hl : l.length ≤ 8) (hk : ∀ t ∈ l, okR t) : (-256000000 ≤ dA l ∧ dA l ≤ 256000000) ∧ (-256000000 ≤ dB l ∧ dB l ≤ 256000000) ∧ (-256000000 ≤ dQ l ∧ dQ l ≤ 256000000) ∧ (-512000000000 ≤ dC l ∧ dC l ≤ 512000000000) := by
 obtain ⟨h1, h2, h3, h4, h5, h6, h7, h8⟩ := prods_in hl hk
 unfold dA dB dQ dC; omega
/-- The error of readings whose distances must not all be equal. -/
def opE (l : List S85) : Int := if rsE l = 0 then (if dA l = 0 then 11 else 0) else rsE l
def opV (l : List S85) : Int × Int × Int × Int × Int × Int × Int := if rsE l = 0 then ((l.length : Int), sX l, sY l, sXX l, sXY l, sYY l, opE l) else (0, 0, 0, 0, 0, 0, opE l)
theorem open_ev (l : List S85) : Ev (fun k => L_open.f k l) (opV l) := by
 unfold L_open.f
 refine Ev.bind (readingsErr_ev l) ?_
 by_cases h : rsE l = 0
 ·obtain ⟨h1, h2, hk⟩ := readings_ok h
  have := sumsOf_l0 l h2 hk l.length 0 0 0 0 0 0 (by omega) (by omega) (by omega) (by omega) (by omega) (by omega)
  simp only [List.drop_zero, Int.zero_add] at this
  have hs : Ev (fun k => L_sumsOf.f k l) ((l.length : Int), sX l, sY l, sXX l, sXY l, sYY l) := this
  unfold opV opE
  simp only [h, if_true]
  refine Ev.bind hs ?_
  simp only [spread_eq h2 hk, unless_eq, Option.bind_some]
  by_cases c : dA l = 0
  ·simp only [c, bne_self_eq_false, Bool.false_eq_true, if_false, if_true]; exact Ev.some
  ·have : (dA l != 0) = true := bne_iff_ne.mpr c
   simp only [c, this, if_true, if_false]; exact Ev.some
 ·unfold opV opE
  simp only [h, if_false]; exact Ev.some
theorem op_ok {l : List S85} (h : opE l = 0) : rsE l = 0 ∧ dA l ≠ 0 := by
 unfold opE at h
 by_cases h1 : rsE l = 0
 ·rw [if_pos h1] at h
  by_cases h2 : dA l = 0
  ·rw [if_pos h2] at h; cases h
  ·exact ⟨h1, h2⟩
 ·rw [if_neg h1] at h; exact absurd h h1

def dev (x : Int) : List S85 → Int
 | [] => 0
 | t :: r => (t.f0 - x) * (t.f0 - x) + dev x r
theorem sq_nonneg (x : Int) : 0 ≤ x * x := by
 by_cases c : 0 ≤ x
 ·exact Int.mul_nonneg c c
 ·have := Int.mul_nonneg (show 0 ≤ -x by omega) (show 0 ≤ -x by omega)
  rw [Int.neg_mul_neg] at this; exact this
theorem sq_zero {x : Int} (h : x * x = 0) : x = 0 := by
 rcases Int.mul_eq_zero.1 h with h | h <;> exact h
theorem dev_nn (x : Int) : ∀ r : List S85, 0 ≤ dev x r
 | [] => by simp [dev]
 | t :: r => by have := dev_nn x r; have := sq_nonneg (t.f0 - x); simp only [dev]; omega
theorem dev_eq (x : Int) : ∀ r : List S85, dev x r = sXX r - 2 * x * sX r + (r.length : Int) * (x * x)
 | [] => by simp [dev, sXX, sX]
 | t :: r => by
  simp only [dev, dev_eq x r, sXX, sX, List.length_cons]
  push_cast
  grind
theorem dA_cons (t : S85) (r : List S85) : dA (t :: r) = dA r + dev t.f0 r := by
 rw [dev_eq]
 unfold dA
 simp only [sXX, sX, List.length_cons]
 push_cast
 grind
theorem dA_nn : ∀ l : List S85, 0 ≤ dA l
 | [] => by simp [dA, sXX, sX]
 | t :: r => by have := dA_nn r; have := dev_nn t.f0 r; rw [dA_cons]; omega
theorem dev_zero (x : Int) : ∀ r : List S85, dev x r = 0 ↔ ∀ t ∈ r, t.f0 = x
 | [] => by simp [dev]
 | t :: r => by
  have h1 := dev_nn x r
  have h2 := sq_nonneg (t.f0 - x)
  have ih := dev_zero x r
  simp only [dev, List.mem_cons, forall_eq_or_imp, ← ih]
  constructor
  ·intro h
   have : t.f0 - x = 0 := sq_zero (by omega)
   exact ⟨by omega, by omega⟩
  ·rintro ⟨e, h⟩
   rw [e, h]; simp
theorem dA_zero : ∀ l : List S85, dA l = 0 ↔ ∀ t ∈ l, ∀ u ∈ l, t.f0 = u.f0
 | [] => by simp [dA, sXX, sX]
 | t :: r => by
  have h1 := dA_nn r
  have h2 := dev_nn t.f0 r
  have ih := dA_zero r
  rw [dA_cons]
  constructor
  ·intro h
   have hz := (dev_zero t.f0 r).1 (by omega)
   have key : ∀ u ∈ t :: r, u.f0 = t.f0 := by
    intro u hu
    rcases List.mem_cons.1 hu with rfl | hu
    ·rfl
    ·exact hz u hu
   intro u hu v hv
   rw [key u hu, key v hv]
  ·intro h
   have a := (dev_zero t.f0 r).2 (fun u hu => h u (List.mem_cons_of_mem _ hu) t List.mem_cons_self)
   have b := ih.2 (fun u hu v hv => h u (List.mem_cons_of_mem _ hu) v (List.mem_cons_of_mem _ hv))
   omega
theorem AreEqual_l0 (l : List S85) (h1 : 1 ≤ l.length) (hl : l.length ≤ 8) : ∀ (n i : Nat), i + n = l.length → Ev (fun k => Rf_AreEqual.l0 k l (i : Int)) (decide (∀ t ∈ l.drop i, t.f0 = (rd_T85 l 0).f0))
 | 0, i, h => by
  refine Ev.succ (f := fun k => Rf_AreEqual.l0 k l (i : Int)) ?_
  simp only [Rf_AreEqual.l0, show ¬ (i : Int) < (l.length : Int) by omega, if_false]
  rw [show l.drop i = [] from List.drop_eq_nil_of_le (by omega), decide_eq_true (fun t ht => by cases ht)]
  exact Ev.some
 | n + 1, i, h => by
  refine Ev.succ (f := fun k => Rf_AreEqual.l0 k l (i : Int)) ?_
  have ih := AreEqual_l0 l h1 hl n (i + 1) (by omega)
  rw [rd85_drop (show i < l.length by omega)]
  simp only [Rf_AreEqual.l0, show (i : Int) < (l.length : Int) by omega, show (0 : Int) ≤ (i : Int) by omega, show (0 : Int) < (l.length : Int) by omega, if_true, up (show i < 4611686018427387904 by omega), List.mem_cons, forall_eq_or_imp]
  by_cases c : (rd_T85 l (i : Int)).f0 = (rd_T85 l 0).f0
  ·simp only [c, if_true, true_and]; exact ih
  ·simp only [c, if_false, false_and, decide_false]; exact Ev.some
theorem AreEqual_ev {l : List S85} (h : rsE l = 0) : Ev (fun k => Rf_AreEqual.f k l) (decide (dA l = 0)) := by
 obtain ⟨h1, h2, hk⟩ := readings_ok h
 have := AreEqual_l0 l h1 h2 l.length 0 (by omega)
 rw [List.drop_zero] at this
 have e : decide (dA l = 0) = decide (∀ t ∈ l, t.f0 = (rd_T85 l 0).f0) := by
  rw [decide_eq_decide, dA_zero]
  have hm : rd_T85 l 0 ∈ l := rd85_mem (i := 0) (by omega)
  exact ⟨fun h t ht => h t ht _ hm, fun h t ht u hu => (h t ht).trans (h u hu).symm⟩
 rw [e]; exact this

def gL (l : List S85) : Int := (g3 (dB l) (dC l) (dA l) : Int)
/-- The line of readings: scale, offset, denominator. -/
def ln (l : List S85) : Int × Int × Int := (dB l / gL l, dC l / gL l, dA l / gL l)
theorem g3_dvd (s o d : Int) : (g3 s o d : Int) ∣ s ∧ (g3 s o d : Int) ∣ o ∧ (g3 s o d : Int) ∣ d := by
 unfold g3
 have h1 := Nat.gcd_dvd_left (Nat.gcd s.natAbs o.natAbs) d.natAbs
 have h2 := Nat.gcd_dvd_right (Nat.gcd s.natAbs o.natAbs) d.natAbs
 exact ⟨Int.ofNat_dvd_left.2 (Nat.dvd_trans h1 (Nat.gcd_dvd_left _ _)), Int.ofNat_dvd_left.2 (Nat.dvd_trans h1 (Nat.gcd_dvd_right _ _)), Int.ofNat_dvd_left.2 h2⟩
theorem g3_pos {s o d : Int} (h : d ≠ 0) : 0 < (g3 s o d : Int) := by
 have : 0 < g3 s o d := Nat.gcd_pos_of_pos_right _ (by omega)
 omega
theorem ex_div {a g : Int} (hg : 0 < g) (hd : g ∣ a) : Int.tdiv a g = a / g ∧ a = (a / g) * g ∧ (a / g).natAbs ≤ a.natAbs :=
 ⟨Int.tdiv_eq_ediv_of_dvd hd, (Int.ediv_mul_cancel hd).symm, Int.natAbs_ediv_le_natAbs a g⟩
/-- The line's parts times the common divisor. -/
theorem ln_mul {l : List S85} (h0 : dA l ≠ 0) : 0 < gL l ∧ dB l = (ln l).1 * gL l ∧ dC l = (ln l).2.1 * gL l ∧ dA l = (ln l).2.2 * gL l := by
 obtain ⟨d1, d2, d3⟩ := g3_dvd (dB l) (dC l) (dA l)
 have hg := g3_pos (s := dB l) (o := dC l) h0
 exact ⟨hg, (ex_div hg d1).2.1, (ex_div hg d2).2.1, (ex_div hg d3).2.1⟩
theorem LineOf_ev (l : List S85) : Ev (fun k => L_LineOf.f k l) (if opE l = 0 then ((ln l).1, (ln l).2.1, (ln l).2.2, 0) else (0, 0, 0, opE l)) := by
 unfold L_LineOf.f
 refine Ev.bind (open_ev l) ?_
 by_cases h : opE l = 0
 ·obtain ⟨hr, h0⟩ := op_ok h
  obtain ⟨h1, h2, hk⟩ := readings_ok hr
  obtain ⟨i1, i2, i3, i4⟩ := dABC_in h2 hk
  obtain ⟨p1, p2, p3, p4, p5, p6, p7, p8⟩ := prods_in h2 hk
  unfold opV
  simp only [hr, h, if_true, shared_eq h2 hk, spread_eq h2 hk, Option.bind_some]
  have hc : wrap64 (wrap64 (sY l * sXX l) - wrap64 (sX l * sXY l)) = dC l := by
   unfold dC; rw [w64 (n := sY l * sXX l) (by omega), w64 (n := sX l * sXY l) (by omega), w64 (by omega)]
  rw [hc]
  refine Ev.bind (divisor_ev [dB l, dC l, dA l] (by simp) (by simp; omega)) ?_
  rw [gcds3]
  obtain ⟨d1, d2, d3⟩ := g3_dvd (dB l) (dC l) (dA l)
  have hg := g3_pos (s := dB l) (o := dC l) h0
  obtain ⟨a1, a2, a3⟩ := ex_div hg d1
  obtain ⟨b1, b2, b3⟩ := ex_div hg d2
  obtain ⟨c1, c2, c3⟩ := ex_div hg d3
  simp only [show ¬ (g3 (dB l) (dC l) (dA l) : Int) = 0 by omega, if_false, a1, b1, c1]
  rw [w64 (n := dB l / _) (by omega), w64 (n := dC l / _) (by omega), w64 (n := dA l / _) (by omega)]
  exact Ev.some
 ·have h2 : (opV l).2.2.2.2.2.2 = opE l := by unfold opV; split <;> rfl
  simp only [h2, h, if_false]; exact Ev.some
/-- How far a line is off at a reading, times the denominator. -/
def off (s o d : Int) (t : S85) : Int := d * t.f1 - s * t.f0 - o
def sO (s o d : Int) : List S85 → Int
 | [] => 0
 | t :: r => off s o d t + sO s o d r
def sP (s o d : Int) : List S85 → Int
 | [] => 0
 | t :: r => off s o d t * t.f0 + sP s o d r
def clR (a b : Int) : Int × Int := if a = 0 then (if b = 0 then (0, 0) else (1, 17)) else (0, 17)
theorem off_in {s o d : Int} (hs : -1000000000 ≤ s ∧ s ≤ 1000000000) (ho : -1000000000000 ≤ o ∧ o ≤ 1000000000000) (hd : -1000000000 ≤ d ∧ d ≤ 1000000000) {t : S85} (ht : okR t) :
  (-2000000000000 ≤ d * t.f1 ∧ d * t.f1 ≤ 2000000000000) ∧ (-2000000000000 ≤ s * t.f0 ∧ s * t.f0 ≤ 2000000000000) ∧ (-5000000000000 ≤ off s o d t ∧ off s o d t ≤ 5000000000000) ∧ (-10000000000000000 ≤ off s o d t * t.f0 ∧ off s o d t * t.f0 ≤ 10000000000000000) := by
 have key : ∀ a b : Int, (-1000000000 ≤ a ∧ a ≤ 1000000000) → (0 ≤ b ∧ b ≤ 2000) → -2000000000000 ≤ a * b ∧ a * b ≤ 2000000000000 := by
  intro a b ha hb
  have h : (a * b).natAbs ≤ 1000000000 * 2000 := by rw [Int.natAbs_mul]; exact Nat.mul_le_mul (by omega) (by omega)
  omega
 have k1 := key d t.f1 hd ht.2.1
 have k2 := key s t.f0 hs ht.1
 have k3 : -5000000000000 ≤ off s o d t ∧ off s o d t ≤ 5000000000000 := by unfold off; omega
 have k4 : (off s o d t * t.f0).natAbs ≤ 5000000000000 * 2000 := by rw [Int.natAbs_mul]; exact Nat.mul_le_mul (by omega) (by have := ht.1; omega)
 exact ⟨k1, k2, k3, by omega⟩
theorem CheckLine_l0 (l : List S85) (hl : l.length ≤ 8) (hk : ∀ t ∈ l, okR t) {s o d : Int} (hs : -1000000000 ≤ s ∧ s ≤ 1000000000) (ho : -1000000000000 ≤ o ∧ o ≤ 1000000000000) (hd : -1000000000 ≤ d ∧ d ≤ 1000000000) : ∀ (n i : Nat) (a b : Int), i + n = l.length → (-5000000000000 * (i : Int) ≤ a ∧ a ≤ 5000000000000 * (i : Int)) → (-10000000000000000 * (i : Int) ≤ b ∧ b ≤ 10000000000000000 * (i : Int)) →
  Ev (fun k => L_CheckLine.l0 k a b l (l.length : Int) (i : Int) s o d) (clR (a + sO s o d (l.drop i)) (b + sP s o d (l.drop i))) ∧ Ev (fun k => Rf_CheckLine.l0 k l a b (i : Int) s o d) (clR (a + sO s o d (l.drop i)) (b + sP s o d (l.drop i)))
 | 0, i, a, b, h, _, _ => by
  rw [show l.drop i = [] from List.drop_eq_nil_of_le (by omega)]
  simp only [sO, sP, Int.add_zero]
  unfold clR
  constructor
  ·refine Ev.succ (f := fun k => L_CheckLine.l0 k a b l (l.length : Int) (i : Int) s o d) ?_
   simp only [L_CheckLine.l0, show ¬ (i : Int) < (l.length : Int) by omega, if_false]
   by_cases c1 : a = 0
   ·by_cases c2 : b = 0
    ·simp only [c1, c2, if_true]; exact Ev.some
    ·simp only [c1, c2, if_true, if_false]; exact Ev.some
   ·simp only [c1, if_false]; exact Ev.some
  ·refine Ev.succ (f := fun k => Rf_CheckLine.l0 k l a b (i : Int) s o d) ?_
   simp only [Rf_CheckLine.l0, show ¬ (i : Int) < (l.length : Int) by omega, if_false]
   by_cases c1 : a = 0
   ·by_cases c2 : b = 0
    ·simp only [c1, c2, if_true]; exact Ev.some
    ·simp only [c1, c2, if_true, if_false]; exact Ev.some
   ·simp only [c1, if_false]; exact Ev.some
 | n + 1, i, a, b, h, ha, hb => by
  have hi : i < l.length := by omega
  have ht := hk _ (rd85_mem hi)
  rw [rd85_drop hi]
  obtain ⟨t, ht0⟩ : ∃ t, t = rd_T85 l (i : Int) := ⟨_, rfl⟩
  rw [← ht0] at ht ⊢
  obtain ⟨k1, k2, k3, k4⟩ := off_in hs ho hd ht
  have e1 : wrap64 (wrap64 (wrap64 (d * t.f1) - wrap64 (s * t.f0)) - o) = off s o d t := by
   rw [w64 (n := d * t.f1) (by omega), w64 (n := s * t.f0) (by omega), w64 (n := d * t.f1 - s * t.f0) (by omega), w64 (by omega)]; rfl
  have ih := CheckLine_l0 l hl hk hs ho hd n (i + 1) (a + off s o d t) (b + off s o d t * t.f0) (by omega) (by omega) (by omega)
  simp only [sO, sP]
  rw [← Int.add_assoc, ← Int.add_assoc]
  constructor
  ·refine Ev.succ (f := fun k => L_CheckLine.l0 k a b l (l.length : Int) (i : Int) s o d) ?_
   simp only [L_CheckLine.l0, show (i : Int) < (l.length : Int) by omega, show (0 : Int) ≤ (i : Int) by omega, if_true, ← ht0, e1, up (show i < 4611686018427387904 by omega), w64 (n := off s o d t * t.f0) (by omega), w64 (n := a + off s o d t) (by omega), w64 (n := b + off s o d t * t.f0) (by omega)]
   exact ih.1
  ·refine Ev.succ (f := fun k => Rf_CheckLine.l0 k l a b (i : Int) s o d) ?_
   simp only [Rf_CheckLine.l0, show (i : Int) < (l.length : Int) by omega, show (0 : Int) ≤ (i : Int) by omega, if_true, ← ht0, e1, up (show i < 4611686018427387904 by omega), w64 (n := off s o d t * t.f0) (by omega), w64 (n := a + off s o d t) (by omega), w64 (n := b + off s o d t * t.f0) (by omega)]
   exact ih.2
theorem lE_ok {s o d : Int} (h : lE s o d = 0) : (1 ≤ d ∧ d ≤ 1000000000) ∧ (-1000000000 ≤ s ∧ s ≤ 1000000000) ∧ (-1000000000000 ≤ o ∧ o ≤ 1000000000000) ∧ g3 s o d = 1 := by
 unfold lE at h
 by_cases e : (1 ≤ d ∧ d ≤ 1000000000) ∧ (-1000000000 ≤ s ∧ s ≤ 1000000000) ∧ (-1000000000000 ≤ o ∧ o ≤ 1000000000000)
 ·rw [if_pos e] at h
  by_cases e2 : g3 s o d = 1
  ·exact ⟨e.1, e.2.1, e.2.2, e2⟩
  ·rw [if_neg e2] at h; cases h
 ·rw [if_neg e] at h; cases h
/-- What is said of a line: which sum is not 0. -/
def clV (l : List S85) (s o d : Int) : Int × Int := clR (sO s o d l) (sP s o d l)
theorem CheckLine_ev (l : List S85) (s o d : Int) : Ev (fun k => L_CheckLine.f k l s o d) (if opE l = 0 then (if lE s o d = 0 then clV l s o d else (0, lE s o d)) else (0, opE l)) := by
 unfold L_CheckLine.f
 refine Ev.bind (open_ev l) ?_
 have h2 : (opV l).2.2.2.2.2.2 = opE l := by unfold opV; split <;> rfl
 rw [h2]
 refine Ev.bind (lineErr_ev s o d) ?_
 refine Ev.bind (first_ev _ (by simp)) ?_
 by_cases h : opE l = 0
 ·by_cases hl : lE s o d = 0
  ·obtain ⟨hr, h0⟩ := op_ok h
   obtain ⟨h1, h8, hk⟩ := readings_ok hr
   obtain ⟨e1, e2, e3, _⟩ := lE_ok hl
   simp only [h, hl, fnz, if_true]
   have := (CheckLine_l0 l h8 hk (s := s) (o := o) (d := d) e2 e3 (by omega) l.length 0 0 0 (by omega) (by omega) (by omega)).1
   simp only [List.drop_zero, Int.zero_add] at this
   exact this
  ·simp only [h, hl, fnz, if_true, if_false]; exact Ev.some
 ·simp only [h, fnz, if_false]; exact Ev.some
def red (a b : Int) : Int × Int := (a / (Int.gcd a b : Int), b / (Int.gcd a b : Int))
theorem red_spec {a b : Int} (hb : 0 < b) : ∃ g : Int, 0 < g ∧ a = (red a b).1 * g ∧ b = (red a b).2 * g ∧ Int.gcd (red a b).1 (red a b).2 = 1 ∧ 0 < (red a b).2 := by
 have hg0 : 0 < Int.gcd a b := Int.gcd_pos_of_ne_zero_right _ (by omega)
 have e1 : a / (Int.gcd a b : Int) * (Int.gcd a b : Int) = a := Int.ediv_mul_cancel (Int.gcd_dvd_left ..)
 have e2 : b / (Int.gcd a b : Int) * (Int.gcd a b : Int) = b := Int.ediv_mul_cancel (Int.gcd_dvd_right ..)
 refine ⟨(Int.gcd a b : Int), by omega, e1.symm, e2.symm, Int.gcd_ediv_gcd_ediv_gcd hg0, ?_⟩
 unfold red
 rcases Int.lt_or_le 0 (b / (Int.gcd a b : Int)) with h | h
 ·exact h
 ·have := Int.mul_le_mul_of_nonneg_right h (show 0 ≤ (Int.gcd a b : Int) by omega)
  rw [e2] at this
  omega
def smallP (p : Int × Int) : Prop := (-1000000000 ≤ p.1 ∧ p.1 ≤ 1000000000) ∧ 1 ≤ p.2 ∧ p.2 ≤ 1000000000
instance (p : Int × Int) : Decidable (smallP p) := by unfold smallP; infer_instance
theorem IsSmall_dec (a b : Int) : Bs_IsSmall.f a b = some (decide (smallP (a, b))) := by
 unfold Bs_IsSmall.f smallP
 simp only [Within_eq, Option.bind_some, decide_eq_true_eq]
 by_cases h : -1000000000 ≤ a ∧ a ≤ 1000000000
 ·simp only [h, and_self, if_true, true_and]
 ·simp only [h, if_false, false_and, decide_false]
def sE (s o d : Int) : List S85 → Int
 | [] => 0
 | t :: r => off s o d t * off s o d t + sE s o d r
theorem sE_nn (s o d : Int) : ∀ r : List S85, 0 ≤ sE s o d r
 | [] => by simp [sE]
 | t :: r => by have := sE_nn s o d r; have := sq_nonneg (off s o d t); simp only [sE]; omega
theorem sE_eq (s o d : Int) : ∀ r : List S85, sE s o d r = d * d * sYY r + s * s * sXX r + (r.length : Int) * (o * o) - 2 * (d * s) * sXY r - 2 * (d * o) * sY r + 2 * (s * o) * sX r
 | [] => by simp [sE, sYY, sXX, sXY, sY, sX]
 | t :: r => by
  simp only [sE, sE_eq s o d r, sYY, sXX, sXY, sY, sX, List.length_cons, off]
  push_cast
  grind
theorem core1 (n X Y XX XY YY A B C : Int) (hA : A = n * XX - X * X) (hB : B = n * XY - X * Y) (hC : C = Y * XX - X * XY) :
  n * (A * A * YY + B * B * XX + n * (C * C) - 2 * (A * B) * XY - 2 * (A * C) * Y + 2 * (B * C) * X) = A * ((n * YY - Y * Y) * A - B * B) := by
 subst hA hB hC
 grind
/-- The program's numerator and denominator. -/
def rNum (l : List S85) : Int := dQ l * dA l - dB l * dB l
def rDen (l : List S85) : Int := (l.length : Int) * dA l
theorem full (l : List S85) : (l.length : Int) * sE (dB l) (dC l) (dA l) l = dA l * rNum l := by
 rw [sE_eq]
 unfold rNum dQ
 exact core1 (l.length : Int) (sX l) (sY l) (sXX l) (sXY l) (sYY l) (dA l) (dB l) (dC l) rfl rfl rfl
theorem off_scale (s o d g : Int) (t : S85) : off (s * g) (o * g) (d * g) t = off s o d t * g := by unfold off; grind
theorem sE_scale (s o d g : Int) : ∀ r : List S85, sE (s * g) (o * g) (d * g) r = sE s o d r * (g * g)
 | [] => by simp [sE]
 | t :: r => by
  simp only [sE, sE_scale s o d g r, off_scale]
  grind
/-- The sum of squares over the denominator squared is the program's quotient. -/
theorem cross {l : List S85} (h1 : 1 ≤ l.length) (h0 : dA l ≠ 0) : sE (ln l).1 (ln l).2.1 (ln l).2.2 l * rDen l = rNum l * ((ln l).2.2 * (ln l).2.2) ∧ 0 < dA l ∧ 0 < (ln l).2.2 ∧ 0 ≤ rNum l ∧ 0 < rDen l := by
 obtain ⟨hg, e1, e2, e3⟩ := ln_mul h0
 have hA : 0 < dA l := by have := dA_nn l; omega
 have hf := full l
 have hsc := sE_scale (ln l).1 (ln l).2.1 (ln l).2.2 (gL l) l
 rw [← e1, ← e2, ← e3] at hsc
 have hd : 0 < (ln l).2.2 := by
  apply Int.lt_of_not_ge; intro hc
  have := Int.mul_le_mul_of_nonneg_right hc (show 0 ≤ gL l by omega)
  omega
 have hD : 0 < rDen l := Int.mul_pos (by omega) hA
 have hN : 0 ≤ rNum l := by
  apply Int.le_of_not_gt; intro hc
  have h2 : dA l * rNum l < 0 := Int.mul_neg_of_pos_of_neg hA hc
  have h3 := sE_nn (dB l) (dC l) (dA l) l
  have h4 := Int.mul_nonneg (show (0 : Int) ≤ (l.length : Int) by omega) h3
  omega
 refine ⟨?_, hA, hd, hN, hD⟩
 have hgg : 0 < gL l * gL l := Int.mul_pos hg hg
 apply Int.eq_of_mul_eq_mul_right (show gL l * gL l ≠ 0 by omega)
 have a1 : sE (ln l).1 (ln l).2.1 (ln l).2.2 l * rDen l * (gL l * gL l) = (l.length : Int) * sE (dB l) (dC l) (dA l) l * dA l := by
  rw [hsc]; unfold rDen; grind
 have a2 : rNum l * ((ln l).2.2 * (ln l).2.2) * (gL l * gL l) = dA l * rNum l * dA l := by
  conv => rhs; rw [e3]
  grind
 rw [a1, a2, hf]
theorem mul_nat {x y : Int} {A B : Nat} (hx : x.natAbs ≤ A) (hy : y.natAbs ≤ B) : (x * y).natAbs ≤ A * B := by
 rw [Int.natAbs_mul]; exact Nat.mul_le_mul hx hy
/-- The residual of readings. -/
def rs (l : List S85) : Int × Int := red (rNum l) (rDen l)
theorem ln_in {l : List S85} (hr : rsE l = 0) (h0 : dA l ≠ 0) : (-1000000000 ≤ (ln l).1 ∧ (ln l).1 ≤ 1000000000) ∧ (-1000000000000 ≤ (ln l).2.1 ∧ (ln l).2.1 ≤ 1000000000000) ∧ (0 < (ln l).2.2 ∧ (ln l).2.2 ≤ 1000000000) := by
 obtain ⟨h1, h8, hk⟩ := readings_ok hr
 obtain ⟨i1, i2, i3, i4⟩ := dABC_in h8 hk
 obtain ⟨_, _, hd, _, _⟩ := cross h1 h0
 have a := Int.natAbs_ediv_le_natAbs (dB l) (gL l)
 have b := Int.natAbs_ediv_le_natAbs (dC l) (gL l)
 have c := Int.natAbs_ediv_le_natAbs (dA l) (gL l)
 have e1 : (ln l).1 = dB l / gL l := rfl
 have e2 : (ln l).2.1 = dC l / gL l := rfl
 have e3 : (ln l).2.2 = dA l / gL l := rfl
 omega
theorem rs_eq {l : List S85} (h1 : 1 ≤ l.length) (h0 : dA l ≠ 0) : 0 ≤ (rs l).1 ∧ 0 < (rs l).2 ∧ (rs l).1 * rDen l = rNum l * (rs l).2 := by
 obtain ⟨hc, hA, hd, hN, hD⟩ := cross h1 h0
 obtain ⟨g, hg, e1, e2, _, hp⟩ := red_spec (a := rNum l) hD
 have hr : rs l = red (rNum l) (rDen l) := rfl
 rw [← hr] at e1 e2 hp
 refine ⟨?_, hp, ?_⟩
 ·apply Int.le_of_not_gt; intro hneg
  have := Int.mul_neg_of_neg_of_pos hneg hg
  omega
 ·conv => lhs; rw [e2]
  conv => rhs; rw [e1]
  grind
theorem rNum_in {l : List S85} (hr : rsE l = 0) : (-70000000000000000 ≤ dQ l * dA l ∧ dQ l * dA l ≤ 70000000000000000) ∧ (-70000000000000000 ≤ dB l * dB l ∧ dB l * dB l ≤ 70000000000000000) ∧ (-2100000000 ≤ rDen l ∧ rDen l ≤ 2100000000) := by
 obtain ⟨h1, h8, hk⟩ := readings_ok hr
 obtain ⟨i1, i2, i3, i4⟩ := dABC_in h8 hk
 have a := mul_nat (x := dQ l) (y := dA l) (A := 256000000) (B := 256000000) (by omega) (by omega)
 have b := mul_nat (x := dB l) (y := dB l) (A := 256000000) (B := 256000000) (by omega) (by omega)
 have c := mul_nat (x := (l.length : Int)) (y := dA l) (A := 8) (B := 256000000) (by omega) (by omega)
 unfold rDen
 omega
theorem ResidualOf_ev (l : List S85) : Ev (fun k => L_ResidualOf.f k l) (if opE l = 0 then (if smallP (rs l) then ((rs l).1, (rs l).2, 0) else (0, 0, 8)) else (0, 0, opE l)) := by
 unfold L_ResidualOf.f
 refine Ev.bind (open_ev l) ?_
 have h2 : (opV l).2.2.2.2.2.2 = opE l := by unfold opV; split <;> rfl
 by_cases h : opE l = 0
 ·obtain ⟨hr, h0⟩ := op_ok h
  obtain ⟨h1, h8, hk⟩ := readings_ok hr
  obtain ⟨hc, hA, hd, hN, hD⟩ := cross h1 h0
  obtain ⟨n1, n2, n3⟩ := rNum_in hr
  rw [h2]
  unfold opV
  simp only [hr, h, if_true, shared_eq h8 hk, spread_eq h8 hk, square_eq h8 hk, Option.bind_some]
  have en : wrap64 (wrap64 (dQ l * dA l) - wrap64 (dB l * dB l)) = rNum l := by
   unfold rNum; rw [w64 (n := dQ l * dA l) (by omega), w64 (n := dB l * dB l) (by omega), w64 (by omega)]
  have ed : wrap64 ((l.length : Int) * dA l) = rDen l := w64 (by unfold rDen at n3; omega)
  have hni : -140000000000000000 ≤ rNum l ∧ rNum l ≤ 140000000000000000 := by unfold rNum; omega
  rw [en, ed]
  have hfr : Ev (fun k => L_fraction.f k (rNum l) (rDen l)) (rs l) := by
   unfold L_fraction.f
   refine Ev.bind (divisor_ev _ (by simp) (by simp; omega)) ?_
   have hg2 : gcds 0 [rNum l, rDen l] = Int.gcd (rNum l) (rDen l) := by simp [gcds, Int.gcd]
   rw [hg2]
   have hgp : 0 < Int.gcd (rNum l) (rDen l) := Int.gcd_pos_of_ne_zero_right _ (by omega)
   have hgp' : (0 : Int) < (Int.gcd (rNum l) (rDen l) : Int) := by omega
   obtain ⟨a1, a2, a3⟩ := ex_div hgp' (Int.gcd_dvd_left (rNum l) (rDen l))
   obtain ⟨b1, b2, b3⟩ := ex_div hgp' (Int.gcd_dvd_right (rNum l) (rDen l))
   simp only [show ¬ (Int.gcd (rNum l) (rDen l) : Int) = 0 by omega, if_false, a1, b1]
   rw [w64 (n := rNum l / _) (by omega), w64 (n := rDen l / _) (by omega)]
   exact Ev.some
  refine Ev.bind hfr ?_
  obtain ⟨r1, r2, _⟩ := rs_eq h1 h0
  unfold smallP
  by_cases c1 : (rs l).1 > 1000000000
  ·simp only [c1, if_true, show ¬ ((-1000000000 ≤ (rs l).1 ∧ (rs l).1 ≤ 1000000000) ∧ 1 ≤ (rs l).2 ∧ (rs l).2 ≤ 1000000000) by omega, if_false]; exact Ev.some
  ·by_cases c2 : (rs l).2 > 1000000000
   ·simp only [c1, c2, if_true, show ¬ ((-1000000000 ≤ (rs l).1 ∧ (rs l).1 ≤ 1000000000) ∧ 1 ≤ (rs l).2 ∧ (rs l).2 ≤ 1000000000) by omega, if_false]; exact Ev.some
   ·have c3 : ((-1000000000 ≤ (rs l).1 ∧ (rs l).1 ≤ 1000000000) ∧ 1 ≤ (rs l).2 ∧ (rs l).2 ≤ 1000000000) = True := eq_true (by omega)
    simp only [c1, c2, c3, if_true, if_false]; exact Ev.some
 ·simp only [h2, h, if_false]; exact Ev.some
theorem awake_ev : Ev (fun k => Lw_awake.f k) true :=
 Ev.of_mono (k := 1500) (fun k => Lw_awake.mono k) (by kernel_rfl)
theorem dvd_g3 {k : Nat} {s o d : Int} (h1 : k ∣ s.natAbs) (h2 : k ∣ o.natAbs) (h3 : k ∣ d.natAbs) : k ∣ g3 s o d := Nat.dvd_gcd (Nat.dvd_gcd h1 h2) h3
theorem g3_mul (s o d g : Int) : g3 (s * g) (o * g) (d * g) = g3 s o d * g.natAbs := by
 unfold g3
 rw [Int.natAbs_mul, Int.natAbs_mul, Int.natAbs_mul, Nat.gcd_mul_right, Nat.gcd_mul_right]
theorem ln_g3 {l : List S85} (h0 : dA l ≠ 0) : g3 (ln l).1 (ln l).2.1 (ln l).2.2 = 1 := by
 obtain ⟨hg, e1, e2, e3⟩ := ln_mul h0
 have h := g3_mul (ln l).1 (ln l).2.1 (ln l).2.2 (gL l)
 rw [← e1, ← e2, ← e3] at h
 have hn : g3 (dB l) (dC l) (dA l) = (gL l).natAbs := by unfold gL; rw [Int.natAbs_natCast]
 rw [hn] at h
 have hp : 0 < (gL l).natAbs := by omega
 exact Nat.eq_of_mul_eq_mul_right hp (by omega)
theorem ln_lE {l : List S85} (hr : rsE l = 0) (h0 : dA l ≠ 0) : lE (ln l).1 (ln l).2.1 (ln l).2.2 = 0 := by
 obtain ⟨e1, e2, e3⟩ := ln_in hr h0
 unfold lE
 rw [if_pos ⟨by omega, e1, e2⟩, if_pos (ln_g3 h0)]
theorem sO_eq (s o d : Int) : ∀ r : List S85, sO s o d r = d * sY r - s * sX r - (r.length : Int) * o
 | [] => by simp [sO, sY, sX]
 | t :: r => by
  simp only [sO, sO_eq s o d r, sY, sX, List.length_cons, off]
  push_cast
  grind
theorem sP_eq (s o d : Int) : ∀ r : List S85, sP s o d r = d * sXY r - s * sXX r - o * sX r
 | [] => by simp [sP, sXY, sXX, sX]
 | t :: r => by
  simp only [sP, sP_eq s o d r, sXY, sXX, sX, off]
  grind
theorem ln_sums {l : List S85} (h0 : dA l ≠ 0) : sO (ln l).1 (ln l).2.1 (ln l).2.2 l = 0 ∧ sP (ln l).1 (ln l).2.1 (ln l).2.2 l = 0 := by
 obtain ⟨hg, e1, e2, e3⟩ := ln_mul h0
 rw [sO_eq, sP_eq]
 have k1 : dA l * sY l - dB l * sX l - (l.length : Int) * dC l = 0 := by unfold dA dB dC; grind
 have k2 : dA l * sXY l - dB l * sXX l - dC l * sX l = 0 := by unfold dA dB dC; grind
 constructor
 ·have : ((ln l).2.2 * sY l - (ln l).1 * sX l - (l.length : Int) * (ln l).2.1) * gL l = 0 := by
   rw [← k1]; conv => rhs; rw [e1, e2, e3]
   grind
  rcases Int.mul_eq_zero.1 this with h | h
  ·exact h
  ·omega
 ·have : ((ln l).2.2 * sXY l - (ln l).1 * sXX l - (ln l).2.1 * sX l) * gL l = 0 := by
   rw [← k2]; conv => rhs; rw [e1, e2, e3]
   grind
  rcases Int.mul_eq_zero.1 this with h | h
  ·exact h
  ·omega
theorem dvd_of_mul3 {a d s o : Int} (ha : 0 < a) (hd : 0 < d) {b c : Int} (h1 : s * a = d * b) (h2 : o * a = d * c) (hg : g3 b c a = 1) : a.natAbs ∣ d.natAbs := by
 have e := g3_mul b c a d
 rw [hg, Nat.one_mul] at e
 rw [← e]
 refine dvd_g3 ?_ ?_ ?_
 ·rw [Int.mul_comm b d, ← h1, Int.natAbs_mul]; exact Nat.dvd_mul_left _ _
 ·rw [Int.mul_comm c d, ← h2, Int.natAbs_mul]; exact Nat.dvd_mul_left _ _
 ·rw [Int.natAbs_mul]; exact Nat.dvd_mul_right _ _
theorem ln_unique {l : List S85} (h1 : 1 ≤ l.length) (h0 : dA l ≠ 0) {s o d : Int} (hE : lE s o d = 0) (k1 : sO s o d l = 0) (k2 : sP s o d l = 0) : s = (ln l).1 ∧ o = (ln l).2.1 ∧ d = (ln l).2.2 := by
 obtain ⟨hg, e1, e2, e3⟩ := ln_mul h0
 obtain ⟨hc, hA, ha, hN, hD⟩ := cross h1 h0
 obtain ⟨i1, i2, i3, i4⟩ := lE_ok hE
 rw [sO_eq] at k1
 rw [sP_eq] at k2
 have q1 : d * dB l = s * dA l := by
  have : d * dB l - s * dA l = (l.length : Int) * (d * sXY l - s * sXX l - o * sX l) - sX l * (d * sY l - s * sX l - (l.length : Int) * o) := by unfold dA dB; grind
  rw [k1, k2] at this; simp at this; omega
 have q2 : d * dC l = o * dA l := by
  have : d * dC l - o * dA l = sXX l * (d * sY l - s * sX l - (l.length : Int) * o) - sX l * (d * sXY l - s * sXX l - o * sX l) := by unfold dA dC; grind
  rw [k1, k2] at this; simp at this; omega
 have hgl := ln_g3 h0
 generalize hb : (ln l).1 = b at *
 generalize hcc : (ln l).2.1 = c at *
 generalize haa : (ln l).2.2 = a at *
 have hgn : gL l ≠ 0 := by omega
 have r1 : s * a = d * b := by
  apply Int.eq_of_mul_eq_mul_right hgn
  have : s * dA l = d * dB l := q1.symm
  rw [e1, e3] at this
  grind
 have r2 : o * a = d * c := by
  apply Int.eq_of_mul_eq_mul_right hgn
  have : o * dA l = d * dC l := q2.symm
  rw [e2, e3] at this
  grind
 have v1 := dvd_of_mul3 ha (show 0 < d by omega) r1 r2 hgl
 have v2 := dvd_of_mul3 (a := d) (d := a) (s := b) (o := c) (b := s) (c := o) (by omega) ha (by rw [Int.mul_comm b d, ← r1, Int.mul_comm]) (by rw [Int.mul_comm c d, ← r2, Int.mul_comm]) i4
 have hda : d = a := by
  have := Nat.dvd_antisymm v1 v2
  omega
 subst hda
 have hdn : d ≠ 0 := by omega
 refine ⟨?_, ?_, rfl⟩
 ·rw [Int.mul_comm d b] at r1; exact Int.eq_of_mul_eq_mul_right hdn r1
 ·rw [Int.mul_comm d c] at r2; exact Int.eq_of_mul_eq_mul_right hdn r2

theorem core2 (n X Y XX XY YY v w : Int) :
  n * (n * XX - X * X) * (1 * 1 * YY + v * v * XX + n * (w * w) - 2 * (1 * v) * XY - 2 * (1 * w) * Y + 2 * (v * w) * X) = ((n * YY - Y * Y) * (n * XX - X * X) - (n * XY - X * Y) * (n * XY - X * Y)) + ((v * (n * XX - X * X) - (n * XY - X * Y)) * (v * (n * XX - X * X) - (n * XY - X * Y)) + (n * XX - X * X) * ((n * w + v * X - Y) * (n * w + v * X - Y))) := by grind
theorem least {l : List S85} (v w : Int) : rNum l ≤ sE v w 1 l * rDen l := by
 have hA := dA_nn l
 have h := core2 (l.length : Int) (sX l) (sY l) (sXX l) (sXY l) (sYY l) v w
 rw [← sE_eq v w 1 l] at h
 have e1 : (l.length : Int) * sXX l - sX l * sX l = dA l := rfl
 have e2 : (l.length : Int) * sXY l - sX l * sY l = dB l := rfl
 have e3 : (l.length : Int) * sYY l - sY l * sY l = dQ l := rfl
 rw [e1, e2, e3] at h
 have p1 := sq_nonneg (v * dA l - dB l)
 have p2 := Int.mul_nonneg hA (sq_nonneg ((l.length : Int) * w + v * sX l - sY l))
 have e4 : sE v w 1 l * rDen l = (l.length : Int) * dA l * sE v w 1 l := by unfold rDen; grind
 rw [e4]
 unfold rNum
 omega
theorem rs_le {l : List S85} (h1 : 1 ≤ l.length) (h0 : dA l ≠ 0) (v w : Int) : (rs l).1 ≤ sE v w 1 l * (rs l).2 := by
 obtain ⟨_, hA, _, hN, hD⟩ := cross h1 h0
 obtain ⟨r1, r2, r3⟩ := rs_eq h1 h0
 apply Int.le_of_mul_le_mul_right (a := rDen l) _ hD
 rw [r3]
 have := Int.mul_le_mul_of_nonneg_right (least (l := l) v w) (show 0 ≤ (rs l).2 by omega)
 have e : sE v w 1 l * rDen l * (rs l).2 = sE v w 1 l * (rs l).2 * rDen l := by grind
 omega
theorem Compare_ev {n d m : Int} (hn : 0 ≤ n ∧ n ≤ 1000000000) (hd : 0 < d ∧ d ≤ 1000000000) (hm : 0 ≤ m ∧ m ≤ 4000000000) (h : n ≤ m * d) : ∃ c, Ev (fun k => Bs_Compare.f k n d m 1) c ∧ ¬ c > 0 := by
 have f1 := Floor_eq (a := n) (b := d) hd.1 (by omega)
 have f2 := Floor_eq (a := m) (b := 1) (by omega) (by omega)
 rw [Int.ediv_one] at f2
 have g1 := Int.mul_ediv_add_emod n d
 have g2 := Int.emod_nonneg n (show d ≠ 0 by omega)
 have hle : n / d ≤ m := by
  have := Int.ediv_le_of_le_mul hd.1 h
  exact this
 have hq0 : 0 ≤ n / d := Int.ediv_nonneg hn.1 (by omega)
 by_cases c : n / d < m
 ·refine ⟨-1, ?_, by decide⟩
  refine Ev.succ (f := fun k => Bs_Compare.l0 k n d m 1) ?_
  simp only [Bs_Compare.l0, f1, f2, Option.bind_some, c, if_true]
  exact Ev.some
 ·have e : n / d = m := by omega
  have hz : n - m * d = 0 := by rw [e, Int.mul_comm] at g1; omega
  refine ⟨0, ?_, by decide⟩
  refine Ev.succ (f := fun k => Bs_Compare.l0 k n d m 1) ?_
  simp only [Bs_Compare.l0, f1, f2, Option.bind_some, e, Int.lt_irrefl, gt_iff_lt, if_false, Int.mul_one]
  rw [w64 (n := m * d) (by omega), w64 (n := n - m * d) (by omega), hz, w64 (n := m) (by omega), Int.sub_self, w64 (n := 0) (by omega)]
  simp only [if_true, beq_self_eq_true]
  refine Ev.succ (f := fun k => Bs_Compare.j1 k 0 d 0 1 true) ?_
  simp only [Bs_Compare.j1, if_true]
  exact Ev.some

def ex (v w : Int) (t : S85) : S85 := ⟨t.f0, v * t.f0 + w, t.f2⟩
theorem ckF_all (l : List S85) : ∀ (n i : Nat), (∀ j, i ≤ j → j < i + n → okR (rd_T85 l (j : Int))) → ckF l n i = (0, 0)
 | 0, i, _ => rfl
 | n + 1, i, h => by
  unfold ckF
  rw [if_pos (h i (Nat.le_refl _) (by omega))]
  exact ckF_all l n (i + 1) (fun j h1 h2 => h j (by omega) (by omega))
theorem rsE_ok {l : List S85} (h1 : 1 ≤ l.length) (h8 : l.length ≤ 8) (hk : ∀ t ∈ l, okR t) : rsE l = 0 := by
 unfold rsE ckR
 rw [if_neg (by omega), if_neg (by omega), ckF_all l l.length 0 (fun j _ hj => hk _ (rd85_mem (by omega)))]
theorem ex_sums (v w : Int) : ∀ r : List S85, sX (r.map (ex v w)) = sX r ∧ sXX (r.map (ex v w)) = sXX r ∧ sY (r.map (ex v w)) = v * sX r + (r.length : Int) * w ∧ sXY (r.map (ex v w)) = v * sXX r + w * sX r ∧ sYY (r.map (ex v w)) = v * v * sXX r + 2 * (v * w) * sX r + (r.length : Int) * (w * w)
 | [] => by simp [sX, sXX, sY, sXY, sYY]
 | t :: r => by
  obtain ⟨h1, h2, h3, h4, h5⟩ := ex_sums v w r
  simp only [List.map_cons, sX, sXX, sY, sXY, sYY, h1, h2, h3, h4, h5, ex, List.length_cons]
  push_cast
  refine ⟨trivial, trivial, ?_, ?_, ?_⟩ <;> grind
theorem ex_line {l : List S85} (h0 : dA l ≠ 0) (v w : Int) : dA (l.map (ex v w)) = dA l ∧ ln (l.map (ex v w)) = (v, w, 1) ∧ rNum (l.map (ex v w)) = 0 := by
 obtain ⟨h1, h2, h3, h4, h5⟩ := ex_sums v w l
 have eA : dA (l.map (ex v w)) = dA l := by unfold dA; rw [h1, h2, List.length_map]
 have eB : dB (l.map (ex v w)) = v * dA l := by unfold dB dA; rw [h1, h3, h4, List.length_map]; grind
 have eC : dC (l.map (ex v w)) = w * dA l := by unfold dC dA; rw [h1, h2, h3, h4]; grind
 have eQ : dQ (l.map (ex v w)) = v * v * dA l := by unfold dQ dA; rw [h3, h5, List.length_map]; grind
 have hA : 0 < dA l := by have := dA_nn l; omega
 refine ⟨eA, ?_, ?_⟩
 ·have hg : gL (l.map (ex v w)) = dA l := by
   unfold gL
   rw [eA, eB, eC]
   have := g3_mul v w 1 (dA l)
   rw [Int.one_mul] at this
   rw [this]
   have h1 : g3 v w 1 = 1 := by unfold g3; simp
   rw [h1, Nat.one_mul]; omega
  unfold ln
  rw [hg, eA, eB, eC, Int.mul_ediv_cancel _ h0, Int.mul_ediv_cancel _ h0, Int.ediv_self h0]
 ·unfold rNum
  rw [eA, eB, eQ]; grind
theorem off1 (v w : Int) (t : S85) : off v w 1 t = t.f1 - (v * t.f0 + w) := by unfold off; omega
theorem v_in {v w : Int} (hv : -3 ≤ v ∧ v ≤ 3) (hw : -2000 ≤ w ∧ w ≤ 2000) {t : S85} (ht : okR t) : (-6000 ≤ v * t.f0 ∧ v * t.f0 ≤ 6000) ∧ (-8000 ≤ v * t.f0 + w ∧ v * t.f0 + w ≤ 8000) ∧ (-10000 ≤ off v w 1 t ∧ off v w 1 t ≤ 10000) ∧ (0 ≤ off v w 1 t * off v w 1 t ∧ off v w 1 t * off v w 1 t ≤ 100000000) := by
 have h1 := mul_nat (x := v) (y := t.f0) (A := 3) (B := 2000) (by omega) (by have := ht.1; omega)
 have h2 := ht.2.1
 have h3 : -10000 ≤ off v w 1 t ∧ off v w 1 t ≤ 10000 := by rw [off1]; omega
 have h4 := mul_nat (x := off v w 1 t) (y := off v w 1 t) (A := 10000) (B := 10000) (by omega) (by omega)
 have h5 := sq_nonneg (off v w 1 t)
 omega
theorem Best_j5 {l : List S85} (hr : rsE l = 0) (h0 : dA l ≠ 0) {v w : Int} (b : Bool) (hb : b = true → ∀ t ∈ l, 0 ≤ v * t.f0 + w ∧ v * t.f0 + w ≤ 2000) : Ev (fun k => Lw_TargetBest.j5 k (l.map (ex v w)) b false v w) true := by
  refine Ev.succ (f := fun k => Lw_TargetBest.j5 k (l.map (ex v w)) b false v w) ?_
  obtain ⟨h1, h8, hk⟩ := readings_ok hr
  cases b with
  | false => simp only [Lw_TargetBest.j5, Bool.false_eq_true, if_false]; exact Ev.some
  | true =>
    have hv := hb rfl
    obtain ⟨eA, eL, eN⟩ := ex_line h0 v w
    have hlen : (l.map (ex v w)).length = l.length := List.length_map _
    have hr' : rsE (l.map (ex v w)) = 0 := rsE_ok (by omega) (by omega) (by
      intro t ht
      obtain ⟨u, hu, rfl⟩ := List.mem_map.1 ht
      exact ⟨(hk u hu).1, hv u hu, (hk u hu).2.2⟩)
    have hop : opE (l.map (ex v w)) = 0 := by unfold opE; rw [if_pos hr', eA, if_neg h0]
    have hrs : rs (l.map (ex v w)) = (0, 1) := by
      obtain ⟨_, _, _, _, hD⟩ := cross (l := l.map (ex v w)) (by omega) (by rw [eA]; exact h0)
      unfold rs red
      rw [eN, Int.gcd_zero_left, Int.zero_ediv]
      rw [show ((rDen (l.map (ex v w))).natAbs : Int) = rDen (l.map (ex v w)) by omega, Int.ediv_self (by omega)]
    simp only [Lw_TargetBest.j5, Bool.false_eq_true, if_false, if_true, CopyReadings_eq (l.map (ex v w)) (by omega), Option.bind_some]
    refine Ev.bind (LineOf_ev _) ?_
    refine Ev.bind (ResidualOf_ev _) ?_
    have hs : smallP ((0 : Int), (1 : Int)) := by unfold smallP; decide
    simp only [hop, eL, hrs, hs, if_true, beq_self_eq_true, Bool.and_self]
    exact Ev.some
theorem Best_l0 {l : List S85} (hr : rsE l = 0) (h0 : dA l ≠ 0) {v w : Int} (hv : -3 ≤ v ∧ v ≤ 3) (hw : -2000 ≤ w ∧ w ≤ 2000) : ∀ (n i : Nat) (s : Int) (b : Bool), i + n = l.length → (0 ≤ s ∧ s ≤ 100000000 * (i : Int)) → s + sE v w 1 (l.drop i) = sE v w 1 l → (b = true → ∀ t ∈ l.take i, 0 ≤ v * t.f0 + w ∧ v * t.f0 + w ≤ 2000) →
  Ev (fun k => Lw_TargetBest.l0 k l ((l.take i).map (ex v w) ++ l.drop i) s b (i : Int) v w) true
 | 0, i, s, b, h, hs, e, hb => by
  refine Ev.succ (f := fun k => Lw_TargetBest.l0 k l ((l.take i).map (ex v w) ++ l.drop i) s b (i : Int) v w) ?_
  obtain ⟨h1, h8, hk⟩ := readings_ok hr
  rw [show l.take i = l from List.take_of_length_le (by omega)] at hb ⊢
  rw [show l.drop i = [] from List.drop_eq_nil_of_le (by omega)] at e ⊢
  rw [List.append_nil]
  simp only [sE, Int.add_zero] at e
  have hj := Best_j5 hr h0 b hb
  simp only [Lw_TargetBest.l0, show ¬ (i : Int) < (l.length : Int) by omega, if_false, CopyReadings_eq l (by omega), Option.bind_some]
  refine Ev.bind (ResidualOf_ev l) ?_
  have hop : opE l = 0 := by unfold opE; rw [if_pos hr, if_neg h0]
  simp only [hop, if_true]
  obtain ⟨r1, r2, r3⟩ := rs_eq h1 h0
  by_cases hsm : smallP (rs l)
  ·have hsm' := hsm
   unfold smallP at hsm'
   simp only [hsm, if_true, IsSmall_dec, Option.bind_some, decide_true, show ¬ (rs l).1 < 0 by omega, if_false]
   have hle := rs_le h1 h0 v w
   rw [← e] at hle
   obtain ⟨c, hc, hcn⟩ := Compare_ev (n := (rs l).1) (d := (rs l).2) (m := s) (by omega) (by omega) (by omega) hle
   refine Ev.bind hc ?_
   simp only [hcn, decide_false]
   exact hj
  ·simp only [hsm, if_false, show ¬ (8 : Int) = 0 by decide, if_true]
   exact hj
 | n + 1, i, s, b, h, hs, e, hb => by
  refine Ev.succ (f := fun k => Lw_TargetBest.l0 k l ((l.take i).map (ex v w) ++ l.drop i) s b (i : Int) v w) ?_
  obtain ⟨h1, h8, hk⟩ := readings_ok hr
  have hi : i < l.length := by omega
  have ht := hk _ (rd85_mem hi)
  obtain ⟨t, ht0⟩ : ∃ t, t = rd_T85 l (i : Int) := ⟨_, rfl⟩
  have hdr := rd85_drop hi
  rw [hdr, ← ht0] at e
  rw [← ht0] at ht hdr
  simp only [sE] at e
  obtain ⟨k1, k2, k3, k4⟩ := v_in hv hw ht
  have hcur : rd_T85 ((l.take i).map (ex v w) ++ l.drop i) (i : Int) = t := by
   unfold rd_T85
   rw [hdr]
   simp only [Int.toNat_natCast, List.getD_eq_getElem?_getD]
   rw [List.getElem?_append_right (by simp; omega)]
   simp [show i - min i l.length = 0 by omega]
  have hlen : ((l.take i).map (ex v w) ++ l.drop i).length = l.length := by simp; omega
  have htake : l.take (i + 1) = l.take i ++ [t] := by
   rw [List.take_succ_eq_append_getElem hi]
   congr 1
   have h2 : l.drop i = l[i] :: l.drop (i + 1) := List.drop_eq_getElem_cons hi
   rw [hdr] at h2
   simp only [List.cons.injEq] at h2
   rw [h2.1]
  have hset : ((l.take i).map (ex v w) ++ l.drop i).set i (ex v w t) = (l.take (i + 1)).map (ex v w) ++ l.drop (i + 1) := by
   rw [hdr, htake, List.set_append_right _ _ (by simp; omega)]
   simp [show i - min i l.length = 0 by omega]
  have e0 : wrap64 (wrap64 (v * t.f0) + w) = v * t.f0 + w := by rw [w64 (n := v * t.f0) (by omega), w64 (by omega)]
  have e1 : wrap64 (t.f1 - (v * t.f0 + w)) = off v w 1 t := by rw [off1, w64 (by rw [off1] at k3; omega)]
  have eex : (⟨t.f0, v * t.f0 + w, t.f2⟩ : S85) = ex v w t := rfl
  have ih := fun b' hb' => Best_l0 hr h0 hv hw n (i + 1) (s + off v w 1 t * off v w 1 t) b' (by omega) (by omega) (by omega) hb'
  simp only [Lw_TargetBest.l0, show (i : Int) < (l.length : Int) by omega, show (0 : Int) ≤ (i : Int) by omega, hlen, if_true, hcur, ← ht0, e0, e1, eex, Int.toNat_natCast, hset, Option.bind_some, Within_eq, up (show i < 4611686018427387904 by omega), w64 (n := off v w 1 t * off v w 1 t) (by omega), w64 (n := s + off v w 1 t * off v w 1 t) (by omega)]
  cases b with
  | false =>
   simp only [Bool.false_eq_true, if_false]
   exact ih false (fun hc => by cases hc)
  | true =>
   simp only [if_true]
   refine ih _ (fun hc => ?_)
   rw [decide_eq_true_eq] at hc
   rw [htake]
   intro u hu
   rcases List.mem_append.1 hu with hu | hu
   ·exact hb rfl u hu
   ·rw [List.mem_singleton.1 hu]; exact hc
theorem clR_ok {a b : Int} : (clR a b).2 = 0 ↔ a = 0 ∧ b = 0 := by
 unfold clR
 by_cases h1 : a = 0
 ·by_cases h2 : b = 0
  ·simp [h1, h2]
  ·simp [h1, h2]
 ·simp [h1]
theorem TargetBest_ev (l : List S85) (s o d v w : Int) : Ev (fun k => Lw_TargetBest.f k l s o d v w) true := by
 unfold Lw_TargetBest.f
 refine Ev.bind awake_ev ?_
 simp only [if_true, few_eq, Option.bind_some, decide_eq_true_eq]
 have hT : Ev (fun k => Lw_TargetBest.j0 k l true s o d v w) true := by
  refine Ev.succ (f := fun k => Lw_TargetBest.j0 k l true s o d v w) ?_
  simp only [Lw_TargetBest.j0, if_true]; exact Ev.some
 by_cases hl : (l.length : Int) ≤ 10
 ·simp only [hl, if_true]
  refine Ev.bind (ReadingsErr_ev l) ?_
  by_cases hr : rsE l = 0
  ·simp only [hr, if_true]
   refine Ev.bind (AreEqual_ev hr) ?_
   by_cases h0 : dA l = 0
   ·simp only [h0, decide_true, if_true]; exact hT
   ·simp only [h0, decide_false, Bool.false_eq_true, if_false, Within_eq, Option.bind_some]
    by_cases hv : -3 ≤ v ∧ v ≤ 3
    ·simp only [hv, and_self, decide_true, if_true]
     by_cases hw : -2000 ≤ w ∧ w ≤ 2000
     ·simp only [hw, and_self, decide_true, Bool.not_true]
      obtain ⟨h1, h8, hk⟩ := readings_ok hr
      have hop : opE l = 0 := by unfold opE; rw [if_pos hr, if_neg h0]
      have hE := ln_lE hr h0
      obtain ⟨z1, z2⟩ := ln_sums h0
      have hj3 : Ev (fun k => Lw_TargetBest.j3 k l v w) true := by
       refine Ev.succ (f := fun k => Lw_TargetBest.j3 k l v w) ?_
       simp only [Lw_TargetBest.j3, CopyReadings_eq l (by omega), Option.bind_some]
       have := Best_l0 hr h0 hv hw l.length 0 0 true (by omega) (by omega) (by rw [List.drop_zero]; omega) (fun _ t ht => by simp at ht)
       simpa using this
      refine Ev.succ (f := fun k => Lw_TargetBest.j0 k l false s o d v w) ?_
      simp only [Lw_TargetBest.j0, Bool.false_eq_true, if_false, CopyReadings_eq l (by omega), Option.bind_some]
      refine Ev.bind (LineOf_ev l) ?_
      simp only [hop, if_true]
      refine Ev.bind (LineErr_ev _ _ _) ?_
      rw [hE, bne_self_eq_false]
      refine Ev.succ (f := fun k => Lw_TargetBest.j1 k l false s o d v w (ln l).1 (ln l).2.1 (ln l).2.2) ?_
      simp only [Lw_TargetBest.j1, Bool.false_eq_true, if_false, CopyReadings_eq l (by omega), Option.bind_some]
      refine Ev.bind (CheckLine_ev l _ _ _) ?_
      have hcl : clV l (ln l).1 (ln l).2.1 (ln l).2.2 = (0, 0) := by unfold clV; rw [z1, z2]; rfl
      simp only [hop, hE, hcl, if_true, bne_self_eq_false]
      refine Ev.succ (f := fun k => Lw_TargetBest.j2 k l false s o d v w (ln l).1 (ln l).2.1 (ln l).2.2) ?_
      simp only [Lw_TargetBest.j2, Bool.false_eq_true, if_false]
      refine Ev.bind (LineErr_ev s o d) ?_
      by_cases hx : lE s o d = 0
      ·simp only [hx, if_true, CopyReadings_eq l (by omega), Option.bind_some]
       refine Ev.bind (CheckLine_ev l s o d) ?_
       simp only [hop, hx, if_true]
       have hiff : ((clV l s o d).2 == 0) = (s == (ln l).1 && (o == (ln l).2.1 && (d == (ln l).2.2))) := by
        rw [Bool.eq_iff_iff]
        simp only [Bool.and_eq_true, beq_iff_eq]
        unfold clV
        rw [clR_ok]
        constructor
        ·rintro ⟨k1, k2⟩; exact ln_unique h1 h0 hx k1 k2
        ·rintro ⟨rfl, rfl, rfl⟩; exact ⟨z1, z2⟩
       rw [hiff, bne_self_eq_false]
       simp only [Bool.false_eq_true, if_false]
       exact hj3
      ·simp only [hx, if_false]; exact hj3
     ·simp only [hw, decide_false, Bool.not_false]; exact hT
    ·simp only [hv, decide_false, Bool.false_eq_true, if_false]; exact hT
  ·simp only [hr, if_false]; exact hT
 ·simp only [hl, if_false]; exact hT
theorem TargetBest_pure (l : List S85) (_ : l.length ≤ maxLen ∧ ∀ x ∈ l, (Lit.int .i64 x.f0).wf = true ∧ (Lit.int .i64 x.f1).wf = true ∧ (Lit.int .i64 x.f2).wf = true) (s : Int) (_ : (Lit.int .i64 s).wf = true) (o : Int) (_ : (Lit.int .i64 o).wf = true) (d : Int) (_ : (Lit.int .i64 d).wf = true) (v : Int) (_ : (Lit.int .i64 v).wf = true) (w : Int) (_ : (Lit.int .i64 w).wf = true) :
  ∃ k, Lw_TargetBest.f k l s o d v w = some true := (TargetBest_ev l s o d v w).ex
end Go.Proofs.Ytibhfahbabgbaaa.P
