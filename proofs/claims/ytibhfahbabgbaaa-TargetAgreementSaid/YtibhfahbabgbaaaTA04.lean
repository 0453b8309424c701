/-
PLAIN LAW: what the walks compute answers as the statement says (no program in sight; Ev: from some number of rounds on).
-/
import Derived.Test.YtibhfahbabgbaaaB05
import Derived.Test.YtibhfahbabgbaaaTA02
import Derived.Test.YtibhfahbabgbaaaTA01
import Derived.Test.YtibhfahbabgbaaaTA03
import Derived.Test.YtibhfahbabgbaaaB16
import Derived.Test.YtibhfahbabgbaaaB10
import Derived.Test.YtibhfahbabgbaaaB12
namespace Go.Proofs.Ytibhfahbabgbaaa.P
open Go Go.RowKit Go.Proofs.Ytibhfahbabgbaaa.A Go.Proofs.YtibhfahbabgbaaaW.PrintWords Go.Proofs.YtibhfahbabgbaaaW.PrintLast Go.Proofs.YtibhfahbabgbaaaW.PrintMore
set_option linter.unusedSimpArgs false
set_option linter.unusedVariables false
/-- From some number of rounds on, f says r. -/
def Ev {α : Type} (f : Nat → Option α) (r : α) : Prop := ∃ k, ∀ j, k ≤ j → f j = some r

theorem Ev.some {α : Type} {r : α} : Ev (fun _ => Option.some r) r := ⟨0, fun _ _ => rfl⟩
theorem Ev.bind {α β : Type} {f : Nat → Option α} {g : Nat → α → Option β} {a : α} {b : β} (h : Ev f a) (h2 : Ev (fun k => g k a) b) : Ev (fun k => (f k).bind (g k)) b := by
 obtain ⟨k, hk⟩ := h
 obtain ⟨m, hm⟩ := h2
 exact ⟨max k m, fun j hj => by show (f j).bind (g j) = _; rw [hk j (by omega)]; exact hm j (by omega)⟩
theorem Ev.succ {α : Type} {f : Nat → Option α} {r : α} (h : Ev (fun k => f (k + 1)) r) : Ev f r := by
 obtain ⟨k, hk⟩ := h
 exact ⟨k + 1, fun j hj => by obtain ⟨m, rfl⟩ : ∃ m, j = m + 1 := ⟨j - 1, by omega⟩; exact hk m (by omega)⟩
theorem Ev.ex {α : Type} {f : Nat → Option α} {r : α} (h : Ev f r) : ∃ k, f k = Option.some r := let ⟨k, hk⟩ := h; ⟨k, hk k (Nat.le_refl _)⟩
theorem Ev.of_mono {α : Type} {f : Nat → Option α} {r : α} (hm : ∀ k, LeO (f k) (f (k + 1))) {k : Nat} (h : f k = Option.some r) : Ev f r := by
  refine ⟨k, fun j hj => ?_⟩
  induction j with
  | zero => obtain rfl : k = 0 := by omega
            exact h
  | succ j ih =>
    by_cases e : k = j + 1
    · subst e; exact h
    · exact hm j r (ih (by omega))
theorem up {i : Nat} (h : i < 4611686018427387904) : wrap64 ((i : Int) + 1) = ((i + 1 : Nat) : Int) := by
 unfold wrap64; omega
theorem w64 {n : Int} (h : -9223372036854775808 ≤ n ∧ n ≤ 9223372036854775807) : wrap64 n = n := by unfold wrap64; omega
theorem rd_nat (l : List Int) (i : Nat) : rd l (i : Int) = l.getD i 0 := by unfold rd; simp
theorem drop_rd {l : List Int} {i : Nat} (h : i < l.length) : l.drop i = rd l (i : Int) :: l.drop (i + 1) := by
 rw [rd_nat, List.drop_eq_getElem_cons h]
 simp [List.getD_eq_getElem?_getD, h]
theorem drop_getD {α : Type} {l : List α} {i : Nat} (z : α) (h : i < l.length) : l.drop i = l.getD i z :: l.drop (i + 1) := by
 rw [List.drop_eq_getElem_cons h]
 simp [List.getD_eq_getElem?_getD, h]

theorem mx_eq (a b : Int) : mx a b = max a b := by unfold mx; split <;> omega
theorem mn_eq (a b : Int) : mn a b = min a b := by unfold mn; split <;> omega
theorem within_eq (a b c : Int) : L_within.f a b c = some (decide (b ≤ a ∧ a ≤ c)) := by
 unfold L_within.f
 by_cases h : b ≤ a <;> simp [h]
theorem Within_eq (a b c : Int) : Bs_Within.f a b c = some (decide (b ≤ a ∧ a ≤ c)) := by
 unfold Bs_Within.f
 by_cases h : b ≤ a <;> simp [h]
theorem unless_eq (b : Bool) (e : Int) : L_unless.f b e = some (if b = true then 0 else e) := by
 unfold L_unless.f
 cases b <;> simp
theorem Size_eq (a : Int) : Bs_Size.f a = some (mx a (wrap64 (-a))) := rfl

/-- The first number that is not 0. -/
def fnz : List Int → Int
 | [] => 0
 | x :: r => if x = 0 then fnz r else x

theorem first_l0 (l : List Int) (hl : l.length < 4611686018427387904) : ∀ (n i : Nat), i + n = l.length → Ev (fun k => L_first.l0 k l (l.length : Int) (i : Int)) (fnz (l.drop i))
 | 0, i, h => by
  refine Ev.succ (f := fun k => L_first.l0 k l (l.length : Int) (i : Int)) ?_
  have h1 : ¬ (i : Int) < (l.length : Int) := by omega
  simp only [L_first.l0, h1, if_false]
  rw [show l.drop i = [] from List.drop_eq_nil_of_le (by omega)]
  exact Ev.some
 | n + 1, i, h => by
  refine Ev.succ (f := fun k => L_first.l0 k l (l.length : Int) (i : Int)) ?_
  have h1 : (i : Int) < (l.length : Int) := by omega
  have h2 : (0 : Int) ≤ (i : Int) := by omega
  simp only [L_first.l0, h1, h2, if_true, up (show i < 4611686018427387904 by omega)]
  rw [drop_rd (show i < l.length by omega)]
  unfold fnz
  by_cases e : rd l (i : Int) = 0
  ·simp only [e, if_true]
   exact first_l0 l hl n (i + 1) (by omega)
  ·simp only [e, if_false]
   exact Ev.some
theorem first_ev (l : List Int) (hl : l.length < 4611686018427387904) : Ev (fun k => L_first.f k l) (fnz l) := first_l0 l hl l.length 0 (by omega)

theorem gcd_lt {x y M : Nat} (hx : x < M) (hy : y < M) : Nat.gcd x y < M := by
 by_cases h : y = 0
 ·subst h; simpa using hx
 ·exact Nat.lt_of_le_of_lt (Nat.gcd_le_right x (by omega)) hy
theorem size_abs {x : Int} (h : -9223372036854775807 ≤ x ∧ x ≤ 9223372036854775807) : mx x (wrap64 (-x)) = (x.natAbs : Int) := by
 rw [w64 (n := -x) (by omega), mx_eq]; omega
theorem gcd_step (x y : Int) : Int.gcd y (x.tmod y) = Int.gcd x y := by
 show Nat.gcd y.natAbs (x.tmod y).natAbs = Nat.gcd x.natAbs y.natAbs
 rw [Int.natAbs_tmod, Nat.gcd_comm, ← Nat.gcd_rec, Nat.gcd_comm]
theorem tmod_in {x y : Int} (h0 : y ≠ 0) : (x.tmod y).natAbs < y.natAbs := by
 rw [Int.natAbs_tmod]
 exact Nat.mod_lt _ (by omega)
theorem Gcd_l0 : ∀ (m : Nat) (x y : Int), y.natAbs ≤ m → x.natAbs < 9223372036854775808 → y.natAbs < 9223372036854775808 → Ev (fun k => Bs_Gcd.l0 k x y) (Int.gcd x y : Int)
 | 0, x, y, h, hx, _ => by
  refine Ev.succ (f := fun k => Bs_Gcd.l0 k x y) ?_
  obtain rfl : y = 0 := by omega
  simp only [Bs_Gcd.l0, if_true, Size_eq, Option.bind_some, size_abs (x := x) (by omega), Int.gcd_zero_right]
  exact Ev.some
 | m + 1, x, y, h, hx, hy => by
  refine Ev.succ (f := fun k => Bs_Gcd.l0 k x y) ?_
  by_cases h0 : y = 0
  ·subst h0
   simp only [Bs_Gcd.l0, if_true, Size_eq, Option.bind_some, size_abs (x := x) (by omega), Int.gcd_zero_right]
   exact Ev.some
  ·simp only [Bs_Gcd.l0, h0, if_false]
   have ht := tmod_in (x := x) h0
   rw [← gcd_step x y]
   exact Gcd_l0 m y (x.tmod y) (by omega) hy (by omega)
theorem Gcd_ev {x y : Int} (hx : x.natAbs < 9223372036854775808) (hy : y.natAbs < 9223372036854775808) : Ev (fun k => Bs_Gcd.f k x y) (Int.gcd x y : Int) := Gcd_l0 _ x y (Nat.le_refl _) hx hy
theorem div_l1 : ∀ (m : Nat) (x y : Int), y.natAbs ≤ m → x.natAbs < 9223372036854775808 → y.natAbs < 9223372036854775808 →
  ∃ d : Int, d.natAbs = Int.gcd x y ∧ ∀ (l : List Int) (len i r : Int), Ev (fun k => L_divisor.l0 k d l len (wrap64 (i + 1))) r → Ev (fun k => L_divisor.l1 k x y l len i) r
 | 0, x, y, h, hx, _ => by
  obtain rfl : y = 0 := by omega
  refine ⟨x, by simp, fun l len i r h => ?_⟩
  refine Ev.succ (f := fun k => L_divisor.l1 k x 0 l len i) ?_
  simp only [L_divisor.l1, if_true]; exact h
 | m + 1, x, y, h, hx, hy => by
  by_cases h0 : y = 0
  ·subst h0
   refine ⟨x, by simp, fun l len i r h => ?_⟩
   refine Ev.succ (f := fun k => L_divisor.l1 k x 0 l len i) ?_
   simp only [L_divisor.l1, if_true]; exact h
  ·have ht := tmod_in (x := x) h0
   obtain ⟨d, hd, hE⟩ := div_l1 m y (x.tmod y) (by omega) hy (by omega)
   refine ⟨d, by rw [hd]; exact gcd_step x y, fun l len i r h => ?_⟩
   refine Ev.succ (f := fun k => L_divisor.l1 k x y l len i) ?_
   simp only [L_divisor.l1, h0, if_false]
   exact hE l len i r h
/-- The greatest common divisor of a list. -/
def gcds : Nat → List Int → Nat
 | g, [] => g
 | g, x :: r => gcds (Nat.gcd g x.natAbs) r
theorem divisor_l0 (l : List Int) (hl : l.length < 4611686018427387904) (hb : ∀ x ∈ l, x.natAbs < 9223372036854775808) : ∀ (n i : Nat) (g : Int), i + n = l.length → g.natAbs < 9223372036854775808 →
  Ev (fun k => L_divisor.l0 k g l (l.length : Int) (i : Int)) (gcds g.natAbs (l.drop i) : Int)
 | 0, i, g, h, hg => by
  refine Ev.succ (f := fun k => L_divisor.l0 k g l (l.length : Int) (i : Int)) ?_
  simp only [L_divisor.l0, show ¬ (i : Int) < (l.length : Int) by omega, if_false, size_abs (x := g) (by omega)]
  rw [show l.drop i = [] from List.drop_eq_nil_of_le (by omega)]
  exact Ev.some
 | n + 1, i, g, h, hg => by
  refine Ev.succ (f := fun k => L_divisor.l0 k g l (l.length : Int) (i : Int)) ?_
  simp only [L_divisor.l0, show (i : Int) < (l.length : Int) by omega, show (0 : Int) ≤ (i : Int) by omega, if_true]
  have hm : rd l (i : Int) ∈ l := by
   have : rd l (i : Int) ∈ l.drop i := by rw [drop_rd (show i < l.length by omega)]; exact List.mem_cons_self
   exact List.mem_of_mem_drop this
  have hx := hb _ hm
  rw [drop_rd (show i < l.length by omega)]
  obtain ⟨d, hd, hE⟩ := div_l1 _ g (rd l (i : Int)) (Nat.le_refl _) hg hx
  refine hE _ _ _ _ ?_
  rw [up (show i < 4611686018427387904 by omega)]
  have hd' : d.natAbs < 9223372036854775808 := by rw [hd]; exact gcd_lt hg hx
  have := divisor_l0 l hl hb n (i + 1) d (by omega) hd'
  rw [hd] at this
  exact this
theorem divisor_ev (l : List Int) (hl : l.length < 4611686018427387904) (hb : ∀ x ∈ l, x.natAbs < 9223372036854775808) : Ev (fun k => L_divisor.f k l) (gcds 0 l : Int) :=
 divisor_l0 l hl hb l.length 0 0 (by omega) (by simp)
theorem isSized_eq {a m : Int} (hm : 0 ≤ m ∧ m ≤ 4611686018427387904) : L_isSized.f a m = some (decide (-m ≤ a ∧ a ≤ m)) := by
 unfold L_isSized.f
 rw [w64 (n := -m) (by omega), within_eq]; rfl
theorem awake_ev : Ev (fun k => Lw_awake.f k) true :=
 Ev.of_mono (k := 1500) (fun k => Lw_awake.mono k) (by kernel_rfl)
def inS (x : Int) : Prop := -10000 ≤ x ∧ x ≤ 10000
instance (x : Int) : Decidable (inS x) := by unfold inS; infer_instance
def okP (p : S165) : Prop := (inS p.f0.f0 ∧ inS p.f0.f1) ∧ (inS p.f1.f0 ∧ inS p.f1.f1)
instance (p : S165) : Decidable (okP p) := by unfold okP; infer_instance
def orP (p : S165) : Prop := p.f0.f0 ≤ p.f0.f1 ∧ p.f1.f0 ≤ p.f1.f1
instance (p : S165) : Decidable (orP p) := by unfold orP; infer_instance
/-- The error of a pair. -/
def pE (p : S165) : Int := if okP p then (if orP p then 0 else 9) else 2
theorem rd165_drop {l : List S165} {i : Nat} (h : i < l.length) : l.drop i = rd_T165 l (i : Int) :: l.drop (i + 1) := by
 rw [drop_getD z165 h]; rfl
theorem pairs1_eq (a b : Int) : L_pairsErr_1.f a b = some (decide (inS a ∧ inS b)) := by
 unfold L_pairsErr_1.f inS
 simp only [isSized_eq (m := 10000) (by omega), Option.bind_some]
 by_cases h1 : -10000 ≤ a ∧ a ≤ 10000
 ·simp only [h1, and_self, decide_true, if_true, true_and]
 ·simp only [h1, decide_false, Bool.false_eq_true, if_false, false_and]
theorem fnz2 (x u v : Int) (r : List Int) : fnz (x :: (fnz [u, v] :: r)) = fnz (fnz [x, u, v] :: r) := by
 by_cases h : x = 0
 ·subst h; rfl
 ·simp only [fnz, h, if_false]
theorem pairs_l0 (l : List S165) (hl : l.length < 4611686018427387904) : ∀ (n i : Nat) (x : Int), i + n = l.length → Ev (fun k => L_pairsErr.l0 k x l (l.length : Int) (i : Int)) (fnz (x :: (l.drop i).map pE))
 | 0, i, x, h => by
  refine Ev.succ (f := fun k => L_pairsErr.l0 k x l (l.length : Int) (i : Int)) ?_
  simp only [L_pairsErr.l0, show ¬ (i : Int) < (l.length : Int) by omega, if_false]
  rw [show l.drop i = [] from List.drop_eq_nil_of_le (by omega)]
  simp only [List.map_nil, fnz]
  by_cases h0 : x = 0
  ·simp only [h0, if_true]; exact Ev.some
  ·simp only [h0, if_false]; exact Ev.some
 | n + 1, i, x, h => by
  refine Ev.succ (f := fun k => L_pairsErr.l0 k x l (l.length : Int) (i : Int)) ?_
  have key : ∀ u v : Int, fnz [u, v] = pE (rd_T165 l (i : Int)) → Ev (fun k => (L_first.f k [x, u, v]).bind fun t => L_pairsErr.l0 k t l (l.length : Int) ((i + 1 : Nat) : Int)) (fnz (x :: (l.drop i).map pE)) := by
   intro u v e
   refine Ev.bind (first_ev _ (by simp)) ?_
   rw [rd165_drop (show i < l.length by omega), List.map_cons, ← e, fnz2]
   exact pairs_l0 l hl n (i + 1) _ (by omega)
  simp only [L_pairsErr.l0, show (i : Int) < (l.length : Int) by omega, show (0 : Int) ≤ (i : Int) by omega, if_true, pairs1_eq, unless_eq, Option.bind_some, up (show i < 4611686018427387904 by omega), decide_eq_true_eq]
  generalize rd_T165 l (i : Int) = p at key ⊢
  unfold pE okP orP at key
  by_cases h1 : inS p.f0.f0 ∧ inS p.f0.f1
  ·simp only [h1, and_self, if_true, true_and] at key ⊢
   by_cases h2 : p.f0.f0 ≤ p.f0.f1
   ·simp only [h2, if_true, true_and] at key ⊢
    refine key _ _ ?_
    by_cases h3 : inS p.f1.f0 ∧ inS p.f1.f1
    ·by_cases h4 : p.f1.f0 ≤ p.f1.f1
     ·simp only [h3, h4, and_self, if_true, fnz]
     ·simp only [h3, h4, and_self, if_true, if_false, fnz, show ¬ (9 : Int) = 0 by decide]
    ·simp only [h3, if_false, fnz, show ¬ (2 : Int) = 0 by decide]
   ·simp only [h2, if_false, false_and, Bool.false_eq_true] at key ⊢
    refine key _ _ ?_
    by_cases h3 : inS p.f1.f0 ∧ inS p.f1.f1
    ·simp only [h3, and_self, if_true, if_false, fnz, show ¬ (9 : Int) = 0 by decide]
    ·simp only [h3, if_false, fnz, show ¬ (2 : Int) = 0 by decide]
  ·simp only [h1, if_false, false_and, Bool.false_eq_true] at key ⊢
   by_cases h2 : p.f0.f0 ≤ p.f0.f1
   ·simp only [h2, if_true]
    exact key _ _ (by simp only [fnz, show ¬ (2 : Int) = 0 by decide, if_false])
   ·simp only [h2, if_false]
    exact key _ _ (by simp only [fnz, show ¬ (2 : Int) = 0 by decide, if_false])
/-- The error of pairs. -/
def psE (l : List S165) : Int := if l.length = 0 then 10 else if 20 < l.length then 8 else fnz (l.map pE)
theorem pairsErr_ev (l : List S165) (hl : l.length < 4611686018427387904) : Ev (fun k => L_pairsErr.f k l) (psE l) := by
 unfold L_pairsErr.f psE
 simp only [unless_eq, Option.bind_some, decide_eq_true_eq]
 refine Ev.bind (first_ev _ (by simp)) ?_
 have := fun x => pairs_l0 l hl l.length 0 x (by omega)
 simp only [List.drop_zero] at this
 by_cases h0 : l.length = 0
 ·simp only [h0, show ¬ (((0 : Nat) : Int) > 0) by omega, if_false, if_true, fnz, show ¬ (10 : Int) = 0 by decide]
  have h2 := this 10
  simp only [fnz, show ¬ (10 : Int) = 0 by decide, if_false, h0] at h2
  exact h2
 ·by_cases h1 : 20 < l.length
  ·simp only [h0, h1, show (l.length : Int) > 0 by omega, show ¬ (l.length : Int) ≤ 20 by omega, if_false, if_true, fnz, show ¬ (8 : Int) = 0 by decide]
   have h2 := this 8
   simp only [fnz, show ¬ (8 : Int) = 0 by decide, if_false] at h2
   exact h2
  ·simp only [h0, h1, show (l.length : Int) > 0 by omega, show (l.length : Int) ≤ 20 by omega, if_false, if_true, fnz]
   have h2 := this 0
   simp only [fnz, if_true] at h2
   exact h2
theorem PairsErr_l0 (l : List S165) (hl : l.length < 4611686018427387904) : ∀ (n i : Nat), i + n = l.length → Ev (fun k => Rf_PairsErr.l0 k l (i : Int)) (fnz ((l.drop i).map pE))
 | 0, i, h => by
  refine Ev.succ (f := fun k => Rf_PairsErr.l0 k l (i : Int)) ?_
  simp only [Rf_PairsErr.l0, show ¬ (i : Int) < (l.length : Int) by omega, if_false]
  rw [show l.drop i = [] from List.drop_eq_nil_of_le (by omega)]
  exact Ev.some
 | n + 1, i, h => by
  refine Ev.succ (f := fun k => Rf_PairsErr.l0 k l (i : Int)) ?_
  have ih := PairsErr_l0 l hl n (i + 1) (by omega)
  rw [rd165_drop (show i < l.length by omega), List.map_cons]
  simp only [Rf_PairsErr.l0, show (i : Int) < (l.length : Int) by omega, show (0 : Int) ≤ (i : Int) by omega, if_true]
  obtain ⟨p, hp⟩ : ∃ p, p = rd_T165 l (i : Int) := ⟨_, rfl⟩
  rw [← hp]
  have hend : okP p → Ev (fun k => Rf_PairsErr.l1 k l (i : Int) [p.f0.f0, p.f0.f1, p.f1.f0, p.f1.f1] 4) (fnz (pE p :: (l.drop (i + 1)).map pE)) := by
   intro hk
   refine Ev.succ (f := fun k => Rf_PairsErr.l1 k l (i : Int) [p.f0.f0, p.f0.f1, p.f1.f0, p.f1.f1] 4) ?_
   simp only [Rf_PairsErr.l1, List.length_cons, List.length_nil, show ¬ (4 : Int) < ((0 + 1 + 1 + 1 + 1 : Nat) : Int) by decide, if_false, show (i : Int) < (l.length : Int) by omega, show (0 : Int) ≤ (i : Int) by omega, if_true, ← hp, up (show i < 4611686018427387904 by omega)]
   unfold pE
   rw [if_pos hk]
   unfold orP
   by_cases h1 : p.f0.f0 ≤ p.f0.f1
   ·by_cases h2 : p.f1.f0 ≤ p.f1.f1
    ·simp only [h1, h2, show ¬ p.f0.f0 > p.f0.f1 by omega, show ¬ p.f1.f0 > p.f1.f1 by omega, and_self, if_true, if_false, fnz]; exact ih
    ·simp only [h1, h2, show ¬ p.f0.f0 > p.f0.f1 by omega, show p.f1.f0 > p.f1.f1 by omega, and_false, if_true, if_false, fnz, show ¬ (9 : Int) = 0 by decide]; exact Ev.some
   ·simp only [h1, show p.f0.f0 > p.f0.f1 by omega, false_and, if_true, if_false, fnz, show ¬ (9 : Int) = 0 by decide]; exact Ev.some
  have hbad : ¬ okP p → fnz (pE p :: (l.drop (i + 1)).map pE) = 2 := by
   intro hk
   unfold pE
   rw [if_neg hk]; rfl
  have hstep : ∀ (j : Nat) (x : Int), j < 4 → rd [p.f0.f0, p.f0.f1, p.f1.f0, p.f1.f1] (j : Int) = x → (¬ inS x → ¬ okP p) → (inS x → Ev (fun k => Rf_PairsErr.l1 k l (i : Int) [p.f0.f0, p.f0.f1, p.f1.f0, p.f1.f1] ((j + 1 : Nat) : Int)) (fnz (pE p :: (l.drop (i + 1)).map pE))) → Ev (fun k => Rf_PairsErr.l1 k l (i : Int) [p.f0.f0, p.f0.f1, p.f1.f0, p.f1.f1] (j : Int)) (fnz (pE p :: (l.drop (i + 1)).map pE)) := by
   intro j x hj hx hno hyes
   refine Ev.succ (f := fun k => Rf_PairsErr.l1 k l (i : Int) [p.f0.f0, p.f0.f1, p.f1.f0, p.f1.f1] (j : Int)) ?_
   simp only [Rf_PairsErr.l1, List.length_cons, List.length_nil, show (j : Int) < ((0 + 1 + 1 + 1 + 1 : Nat) : Int) by omega, show (0 : Int) ≤ (j : Int) by omega, if_true, hx, Within_eq, Option.bind_some, up (show j < 4611686018427387904 by omega), decide_eq_true_eq]
   by_cases h1 : -10000 ≤ x ∧ x ≤ 10000
   ·simp only [h1, and_self, if_true]; exact hyes h1
   ·simp only [h1, if_false]; rw [hbad (hno h1)]; exact Ev.some
  refine hstep 0 p.f0.f0 (by omega) rfl (fun h h2 => h h2.1.1) fun a0 => ?_
  refine hstep 1 p.f0.f1 (by omega) rfl (fun h h2 => h h2.1.2) fun a1 => ?_
  refine hstep 2 p.f1.f0 (by omega) rfl (fun h h2 => h h2.2.1) fun a2 => ?_
  refine hstep 3 p.f1.f1 (by omega) rfl (fun h h2 => h h2.2.2) fun a3 => ?_
  exact hend ⟨⟨a0, a1⟩, ⟨a2, a3⟩⟩
theorem PairsErr_ev (l : List S165) (hl : l.length < 4611686018427387904) : Ev (fun k => Rf_PairsErr.f k l) (psE l) := by
 unfold Rf_PairsErr.f psE
 by_cases h0 : l.length = 0
 ·simp only [h0, show (((0 : Nat) : Int) = 0) by rfl, if_true]; exact Ev.some
 ·by_cases h1 : 20 < l.length
  ·simp only [h0, h1, show ¬ (l.length : Int) = 0 by omega, show (l.length : Int) > 20 by omega, if_true, if_false]; exact Ev.some
  ·simp only [h0, h1, show ¬ (l.length : Int) = 0 by omega, show ¬ (l.length : Int) > 20 by omega, if_false]
   have := PairsErr_l0 l hl l.length 0 (by omega)
   simpa using this
theorem fnz_all : ∀ l : List Int, fnz l = 0 → ∀ x ∈ l, x = 0
 | [], _, x, hx => by cases hx
 | a :: r, h, x, hx => by
  unfold fnz at h
  by_cases e : a = 0
  ·rw [if_pos e] at h
   rcases List.mem_cons.1 hx with rfl | hx
   ·exact e
   ·exact fnz_all r h x hx
  ·rw [if_neg e] at h; exact absurd h e
/-- Valid pairs. -/
theorem pairs_ok {l : List S165} (h : psE l = 0) : 1 ≤ l.length ∧ l.length ≤ 20 ∧ ∀ p ∈ l, okP p := by
 unfold psE at h
 by_cases h0 : l.length = 0
 ·rw [if_pos h0] at h; cases h
 ·rw [if_neg h0] at h
  by_cases h1 : 20 < l.length
  ·rw [if_pos h1] at h; cases h
  ·rw [if_neg h1] at h
   refine ⟨by omega, by omega, fun p hp => ?_⟩
   have := fnz_all _ h (pE p) (List.mem_map_of_mem hp)
   unfold pE at this
   by_cases e : okP p
   ·exact e
   ·rw [if_neg e] at this; cases this
theorem rd165_mem {l : List S165} {i : Nat} (h : i < l.length) : rd_T165 l (i : Int) ∈ l := by
 have : rd_T165 l (i : Int) ∈ l.drop i := by rw [rd165_drop h]; exact List.mem_cons_self
 exact List.mem_of_mem_drop this

def dLo (p : S165) : Int := p.f0.f0 - p.f1.f1
def dHi (p : S165) : Int := p.f0.f1 - p.f1.f0
theorem d_in {p : S165} (h : okP p) : (-20000 ≤ dLo p ∧ dLo p ≤ 20000) ∧ (-20000 ≤ dHi p ∧ dHi p ≤ 20000) := by
 unfold okP inS at h; unfold dLo dHi; omega
theorem diff_eq {p : S165} (h : okP p) : L_difference.f p.f0.f0 p.f0.f1 p.f1.f0 p.f1.f1 = some (dLo p, dHi p) := by
 have := d_in h
 unfold L_difference.f
 unfold dLo dHi at *
 rw [w64 (by omega), w64 (by omega)]
theorem Diff_eq {p : S165} (h : okP p) : Rf_difference.f p.f0.f0 p.f0.f1 p.f1.f0 p.f1.f1 = some (dLo p, dHi p) := diff_eq h
/-- Whether a pair does not agree, may agree, or agrees. -/
def cls (m : Int) (p : S165) : Int := if dLo p > m ∨ dHi p < -m then 0 else if (-m ≤ dLo p ∧ dLo p ≤ m) ∧ (-m ≤ dHi p ∧ dHi p ≤ m) then 2 else 1
def cnt (m v : Int) : List S165 → Int
 | [] => 0
 | p :: r => (if cls m p = v then 1 else 0) + cnt m v r
theorem cnt_in (m v : Int) : ∀ l : List S165, 0 ≤ cnt m v l ∧ cnt m v l ≤ l.length
 | [] => by simp [cnt]
 | p :: r => by
  have := cnt_in m v r
  simp only [cnt, List.length_cons]
  split <;> omega
theorem cls_in (m : Int) (p : S165) : cls m p = 0 ∨ cls m p = 1 ∨ cls m p = 2 := by
 unfold cls; split
 ·exact .inl rfl
 ·split
  ·exact .inr (.inr rfl)
  ·exact .inr (.inl rfl)
theorem cnt_sum (m : Int) : ∀ l : List S165, cnt m 0 l + cnt m 1 l + cnt m 2 l = l.length
 | [] => by simp [cnt]
 | p :: r => by
  have := cnt_sum m r
  simp only [cnt, List.length_cons]
  rcases cls_in m p with e | e | e <;> simp only [e, if_true, show ¬ (0 : Int) = 1 by decide, show ¬ (0 : Int) = 2 by decide, show ¬ (1 : Int) = 0 by decide, show ¬ (1 : Int) = 2 by decide, show ¬ (2 : Int) = 0 by decide, show ¬ (2 : Int) = 1 by decide, if_false] <;> omega
theorem cls_yes {m m' : Int} (h : m ≤ m') (p : S165) (e : cls m p = 2) : cls m' p = 2 := by
 unfold cls at *
 by_cases c : dLo p > m ∨ dHi p < -m
 ·rw [if_pos c] at e; cases e
 ·rw [if_neg c] at e
  by_cases c2 : (-m ≤ dLo p ∧ dLo p ≤ m) ∧ (-m ≤ dHi p ∧ dHi p ≤ m)
  ·rw [if_neg (by omega), if_pos (by omega)]
  ·rw [if_neg c2] at e; cases e
theorem cls_no {m m' : Int} (h : m ≤ m') (p : S165) (e : cls m' p = 0) : cls m p = 0 := by
 unfold cls at *
 by_cases c : dLo p > m' ∨ dHi p < -m'
 ·rw [if_pos (by omega)]
 ·rw [if_neg c] at e
  split at e <;> cases e
theorem cnt_yes {m m' : Int} (h : m ≤ m') : ∀ l : List S165, cnt m 2 l ≤ cnt m' 2 l
 | [] => by simp [cnt]
 | p :: r => by
  have := cnt_yes h r
  simp only [cnt]
  by_cases e : cls m p = 2
  ·simp only [e, cls_yes h p e, if_true]; omega
  ·simp only [e, if_false]; split <;> omega
theorem cnt_no {m m' : Int} (h : m ≤ m') : ∀ l : List S165, cnt m' 0 l ≤ cnt m 0 l
 | [] => by simp [cnt]
 | p :: r => by
  have := cnt_no h r
  simp only [cnt]
  by_cases e : cls m' p = 0
  ·simp only [e, cls_no h p e, if_true]; omega
  ·simp only [e, if_false]; split <;> omega
theorem Agr_l0 (m : Int) (hm : 0 ≤ m ∧ m ≤ 10000) (l : List S165) (hl : l.length ≤ 20) (hk : ∀ p ∈ l, okP p) : ∀ (n i : Nat) (a b c : Int), i + n = l.length → (0 ≤ a ∧ a ≤ i) → (0 ≤ b ∧ b ≤ i) → (0 ≤ c ∧ c ≤ i) →
  Ev (fun k => L_AgreementOf.l0 k m l (l.length : Int) (i : Int) a b c) (a + cnt m 0 (l.drop i), b + cnt m 1 (l.drop i), c + cnt m 2 (l.drop i), 0)
 | 0, i, a, b, c, h, _, _, _ => by
  refine Ev.succ (f := fun k => L_AgreementOf.l0 k m l (l.length : Int) (i : Int) a b c) ?_
  simp only [L_AgreementOf.l0, show ¬ (i : Int) < (l.length : Int) by omega, if_false]
  rw [show l.drop i = [] from List.drop_eq_nil_of_le (by omega)]
  simp only [cnt, Int.add_zero]; exact Ev.some
 | n + 1, i, a, b, c, h, ha, hb, hc => by
  refine Ev.succ (f := fun k => L_AgreementOf.l0 k m l (l.length : Int) (i : Int) a b c) ?_
  have hil : i < l.length := by omega
  have ih := fun a b c => Agr_l0 m hm l hl hk n (i + 1) a b c (by omega)
  rw [rd165_drop hil]
  obtain ⟨p, hp⟩ : ∃ p, p = rd_T165 l (i : Int) := ⟨_, rfl⟩
  have hkp : okP p := by rw [hp]; exact hk _ (rd165_mem hil)
  rw [← hp]
  simp only [L_AgreementOf.l0, show (i : Int) < (l.length : Int) by omega, show (0 : Int) ≤ (i : Int) by omega, if_true, ← hp, diff_eq hkp, Option.bind_some, isSized_eq (m := m) (by omega), decide_eq_true_eq]
  have hj : ∀ y : Bool, (y = true ↔ (-m ≤ dLo p ∧ dLo p ≤ m) ∧ (-m ≤ dHi p ∧ dHi p ≤ m)) → Ev (fun k => L_AgreementOf.j1 k m l (l.length : Int) (i : Int) y a b c (dLo p) (dHi p)) (a + cnt m 0 (p :: l.drop (i + 1)), b + cnt m 1 (p :: l.drop (i + 1)), c + cnt m 2 (p :: l.drop (i + 1)), 0) := by
   intro y hy
   refine Ev.succ (f := fun k => L_AgreementOf.j1 k m l (l.length : Int) (i : Int) y a b c (dLo p) (dHi p)) ?_
   simp only [L_AgreementOf.j1, up (show i < 4611686018427387904 by omega), w64 (n := -m) (by omega), w64 (n := a + 1) (by omega), w64 (n := b + 1) (by omega), w64 (n := c + 1) (by omega), show ¬ (1 : Int) = 0 by decide, if_true, if_false, cnt]
   cases y with
   | true =>
    have h2 := hy.1 rfl
    have e : cls m p = 2 := by unfold cls; rw [if_neg (by omega), if_pos h2]
    simp only [if_true, e, show ¬ (2 : Int) = 0 by decide, show ¬ (2 : Int) = 1 by decide, if_false, Int.zero_add]
    rw [show c + (1 + cnt m 2 (l.drop (i + 1))) = c + 1 + cnt m 2 (l.drop (i + 1)) by omega]
    exact ih a b (c + 1) (by omega) (by omega) (by omega)
   | false =>
    have h2 : ¬ ((-m ≤ dLo p ∧ dLo p ≤ m) ∧ (-m ≤ dHi p ∧ dHi p ≤ m)) := fun h => by have := hy.2 h; cases this
    simp only [Bool.false_eq_true, if_false]
    by_cases c1 : dLo p > m
    ·have e : cls m p = 0 := by unfold cls; rw [if_pos (.inl c1)]
     simp only [c1, if_true, e, show ¬ (0 : Int) = 2 by decide, show ¬ (0 : Int) = 1 by decide, if_false, Int.zero_add]
     rw [show a + (1 + cnt m 0 (l.drop (i + 1))) = a + 1 + cnt m 0 (l.drop (i + 1)) by omega]
     exact ih (a + 1) b c (by omega) (by omega) (by omega)
    ·by_cases c2 : dHi p < -m
     ·have e : cls m p = 0 := by unfold cls; rw [if_pos (.inr c2)]
      simp only [c1, c2, if_true, e, show ¬ (0 : Int) = 2 by decide, show ¬ (0 : Int) = 1 by decide, if_false, Int.zero_add]
      rw [show a + (1 + cnt m 0 (l.drop (i + 1))) = a + 1 + cnt m 0 (l.drop (i + 1)) by omega]
      exact ih (a + 1) b c (by omega) (by omega) (by omega)
     ·have e : cls m p = 1 := by unfold cls; rw [if_neg (by omega), if_neg h2]
      simp only [c1, c2, if_true, e, show ¬ (1 : Int) = 2 by decide, show ¬ (1 : Int) = 0 by decide, if_false, Int.zero_add]
      rw [show b + (1 + cnt m 1 (l.drop (i + 1))) = b + 1 + cnt m 1 (l.drop (i + 1)) by omega]
      exact ih a (b + 1) c (by omega) (by omega) (by omega)
  by_cases h1 : -m ≤ dLo p ∧ dLo p ≤ m
  ·simp only [h1, and_self, if_true]
   exact hj _ (by rw [decide_eq_true_eq]; exact ⟨fun h => ⟨h1, h⟩, fun h => h.2⟩)
  ·simp only [h1, if_false]
   exact hj false ⟨fun h => by (cases h), fun h => absurd h.1 h1⟩
def lmE (m : Int) : Int := if 0 ≤ m ∧ m ≤ 10000 then 0 else 2
theorem AgreementOf_ev (l : List S165) (hl : l.length < 4611686018427387904) (m : Int) : Ev (fun k => L_AgreementOf.f k l m) (if psE l = 0 then (if lmE m = 0 then (cnt m 0 l, cnt m 1 l, cnt m 2 l, 0) else (0, 0, 0, 2)) else (0, 0, 0, psE l)) := by
 unfold L_AgreementOf.f
 refine Ev.bind (pairsErr_ev l hl) ?_
 simp only [within_eq, unless_eq, Option.bind_some, decide_eq_true_eq]
 refine Ev.bind (first_ev _ (by simp)) ?_
 by_cases h : psE l = 0
 ·unfold lmE
  by_cases hm : 0 ≤ m ∧ m ≤ 10000
  ·obtain ⟨h1, h2, h3⟩ := pairs_ok h
   simp only [h, hm, and_self, if_true, fnz]
   have := Agr_l0 m hm l h2 h3 l.length 0 0 0 0 (by omega) (by omega) (by omega) (by omega)
   simpa using this
  ·simp only [h, hm, if_true, if_false, fnz, show ¬ (2 : Int) = 0 by decide]; exact Ev.some
 ·simp only [h, if_false, fnz]; exact Ev.some
theorem Size_abs {x : Int} (h : -9223372036854775807 ≤ x ∧ x ≤ 9223372036854775807) : Bs_Size.f x = some (x.natAbs : Int) := by
 rw [Size_eq, size_abs h]
theorem RAgr_l0 (m : Int) (hm : 0 ≤ m ∧ m ≤ 10000) (l : List S165) (hl : l.length ≤ 20) (hk : ∀ p ∈ l, okP p) : ∀ (n i : Nat) (a b c : Int), i + n = l.length → (0 ≤ a ∧ a ≤ i) → (0 ≤ b ∧ b ≤ i) → (0 ≤ c ∧ c ≤ i) →
  Ev (fun k => Rf_Agreement.l0 k l m (i : Int) a b c) (a + cnt m 0 (l.drop i), b + cnt m 1 (l.drop i), c + cnt m 2 (l.drop i))
 | 0, i, a, b, c, h, _, _, _ => by
  refine Ev.succ (f := fun k => Rf_Agreement.l0 k l m (i : Int) a b c) ?_
  simp only [Rf_Agreement.l0, show ¬ (i : Int) < (l.length : Int) by omega, if_false]
  rw [show l.drop i = [] from List.drop_eq_nil_of_le (by omega)]
  simp only [cnt, Int.add_zero]; exact Ev.some
 | n + 1, i, a, b, c, h, ha, hb, hc => by
  refine Ev.succ (f := fun k => Rf_Agreement.l0 k l m (i : Int) a b c) ?_
  have hil : i < l.length := by omega
  have ih := fun a b c => RAgr_l0 m hm l hl hk n (i + 1) a b c (by omega)
  rw [rd165_drop hil]
  obtain ⟨p, hp⟩ : ∃ p, p = rd_T165 l (i : Int) := ⟨_, rfl⟩
  have hkp : okP p := by rw [hp]; exact hk _ (rd165_mem hil)
  have hd := d_in hkp
  rw [← hp]
  simp only [Rf_Agreement.l0, show (i : Int) < (l.length : Int) by omega, show (0 : Int) ≤ (i : Int) by omega, if_true, ← hp, Diff_eq hkp, Option.bind_some, w64 (n := -m) (by omega)]
  have hj : ∀ y : Bool, (y = true ↔ dLo p > m ∨ dHi p < -m) → Ev (fun k => Rf_Agreement.j1 k l m (i : Int) y a b c (dLo p) (dHi p)) (a + cnt m 0 (p :: l.drop (i + 1)), b + cnt m 1 (p :: l.drop (i + 1)), c + cnt m 2 (p :: l.drop (i + 1))) := by
   intro y hy
   refine Ev.succ (f := fun k => Rf_Agreement.j1 k l m (i : Int) y a b c (dLo p) (dHi p)) ?_
   simp only [Rf_Agreement.j1, up (show i < 4611686018427387904 by omega), w64 (n := a + 1) (by omega), w64 (n := b + 1) (by omega), w64 (n := c + 1) (by omega), Size_abs (x := dLo p) (by omega), Size_abs (x := dHi p) (by omega), Option.bind_some, cnt]
   cases y with
   | true =>
    have e : cls m p = 0 := by unfold cls; rw [if_pos (hy.1 rfl)]
    simp only [if_true, e, show ¬ (0 : Int) = 2 by decide, show ¬ (0 : Int) = 1 by decide, if_false, Int.zero_add]
    rw [show a + (1 + cnt m 0 (l.drop (i + 1))) = a + 1 + cnt m 0 (l.drop (i + 1)) by omega]
    exact ih (a + 1) b c (by omega) (by omega) (by omega)
   | false =>
    have h2 : ¬ (dLo p > m ∨ dHi p < -m) := fun h => by have := hy.2 h; cases this
    simp only [Bool.false_eq_true, if_false]
    by_cases c1 : ((dLo p).natAbs : Int) ≤ m
    ·by_cases c2 : ((dHi p).natAbs : Int) ≤ m
     ·have e : cls m p = 2 := by unfold cls; rw [if_neg h2, if_pos (by omega)]
      simp only [c1, c2, if_true, e, show ¬ (2 : Int) = 0 by decide, show ¬ (2 : Int) = 1 by decide, if_false, Int.zero_add]
      rw [show c + (1 + cnt m 2 (l.drop (i + 1))) = c + 1 + cnt m 2 (l.drop (i + 1)) by omega]
      exact ih a b (c + 1) (by omega) (by omega) (by omega)
     ·have e : cls m p = 1 := by unfold cls; rw [if_neg h2, if_neg (by omega)]
      simp only [c1, c2, if_true, e, show ¬ (1 : Int) = 0 by decide, show ¬ (1 : Int) = 2 by decide, if_false, Int.zero_add]
      rw [show b + (1 + cnt m 1 (l.drop (i + 1))) = b + 1 + cnt m 1 (l.drop (i + 1)) by omega]
      exact ih a (b + 1) c (by omega) (by omega) (by omega)
    ·have e : cls m p = 1 := by unfold cls; rw [if_neg h2, if_neg (by omega)]
     simp only [c1, if_true, e, show ¬ (1 : Int) = 0 by decide, show ¬ (1 : Int) = 2 by decide, if_false, Int.zero_add]
     rw [show b + (1 + cnt m 1 (l.drop (i + 1))) = b + 1 + cnt m 1 (l.drop (i + 1)) by omega]
     exact ih a (b + 1) c (by omega) (by omega) (by omega)
  by_cases h1 : dLo p > m
  ·simp only [h1, if_true]
   exact hj true ⟨fun _ => .inl h1, fun _ => rfl⟩
  ·simp only [h1, if_false]
   exact hj _ (by rw [decide_eq_true_eq]; exact ⟨fun h => .inr h, fun h => h.resolve_left h1⟩)
theorem Agreement_ev {l : List S165} (h : psE l = 0) {m : Int} (hm : 0 ≤ m ∧ m ≤ 10000) : Ev (fun k => Rf_Agreement.f k l m) (cnt m 0 l, cnt m 1 l, cnt m 2 l) := by
 obtain ⟨h1, h2, h3⟩ := pairs_ok h
 have := RAgr_l0 m hm l h2 h3 l.length 0 0 0 0 (by omega) (by omega) (by omega) (by omega)
 simpa [Rf_Agreement.f] using this

def frac (a b : Int) : Int × Int := (wrap64 (Int.tdiv a (Int.gcd a b : Int)), wrap64 (Int.tdiv b (Int.gcd a b : Int)))
theorem gcds2 (a b : Int) : gcds 0 [a, b] = Int.gcd a b := by simp [gcds, Int.gcd]
theorem gcd_ne {a b : Int} (hb : b ≠ 0) : ¬ ((Int.gcd a b : Nat) : Int) = 0 := by
 intro h
 have h2 : Int.gcd a b = 0 := by omega
 exact hb (Int.gcd_eq_zero_iff.1 h2).2
theorem fraction_ev {a b : Int} (ha : a.natAbs < 9223372036854775808) (hb : b.natAbs < 9223372036854775808) (h0 : b ≠ 0) : Ev (fun k => L_fraction.f k a b) (frac a b) := by
 unfold L_fraction.f
 refine Ev.bind (divisor_ev _ (by simp) (by simp; omega)) ?_
 rw [gcds2]
 simp only [gcd_ne h0, if_false]; exact Ev.some
theorem Lowest_ev {a b : Int} (ha : a.natAbs < 9223372036854775808) (hb : b.natAbs < 9223372036854775808) (h0 : 0 < b) : Ev (fun k => Bs_Lowest.f k a b) (frac a b) := by
 unfold Bs_Lowest.f
 refine Ev.bind (Gcd_ev ha hb) ?_
 simp only [show ¬ b < 0 by omega, gcd_ne (a := a) (show b ≠ 0 by omega), if_false]; exact Ev.some
def sLo : List S165 → Int
 | [] => 0
 | p :: r => dLo p + sLo r
def sHi : List S165 → Int
 | [] => 0
 | p :: r => dHi p + sHi r
def biasL (l : List S165) (x y : Int) : Int × Int × Int × Int := ((frac x l.length).1, (frac x l.length).2, (frac y l.length).1, (frac y l.length).2)
theorem Bias_l0 (l : List S165) (h1 : 1 ≤ l.length) (hl : l.length ≤ 20) (hk : ∀ p ∈ l, okP p) : ∀ (n i : Nat) (x y : Int), i + n = l.length → (-20000 * i ≤ x ∧ x ≤ 20000 * i) → (-20000 * i ≤ y ∧ y ≤ 20000 * i) →
  Ev (fun k => L_BiasOf.l0 k l l (l.length : Int) (i : Int) x y) ((biasL l (x + sLo (l.drop i)) (y + sHi (l.drop i))).1, (biasL l (x + sLo (l.drop i)) (y + sHi (l.drop i))).2.1, (biasL l (x + sLo (l.drop i)) (y + sHi (l.drop i))).2.2.1, (biasL l (x + sLo (l.drop i)) (y + sHi (l.drop i))).2.2.2, 0) ∧
  Ev (fun k => Rf_Bias.l0 k l x y (i : Int)) (biasL l (x + sLo (l.drop i)) (y + sHi (l.drop i)))
 | 0, i, x, y, h, hx, hy => by
  rw [show l.drop i = [] from List.drop_eq_nil_of_le (by omega)]
  simp only [sLo, sHi, Int.add_zero]
  constructor
  ·refine Ev.succ (f := fun k => L_BiasOf.l0 k l l (l.length : Int) (i : Int) x y) ?_
   simp only [L_BiasOf.l0, show ¬ (i : Int) < (l.length : Int) by omega, if_false]
   refine Ev.bind (fraction_ev (by omega) (by omega) (by omega)) ?_
   refine Ev.bind (fraction_ev (by omega) (by omega) (by omega)) ?_
   exact Ev.some
  ·refine Ev.succ (f := fun k => Rf_Bias.l0 k l x y (i : Int)) ?_
   simp only [Rf_Bias.l0, show ¬ (i : Int) < (l.length : Int) by omega, if_false]
   refine Ev.bind (Lowest_ev (by omega) (by omega) (by omega)) ?_
   refine Ev.bind (Lowest_ev (by omega) (by omega) (by omega)) ?_
   exact Ev.some
 | n + 1, i, x, y, h, hx, hy => by
  have hil : i < l.length := by omega
  have hkp := hk _ (rd165_mem hil)
  have hd := d_in hkp
  have ih := Bias_l0 l h1 hl hk n (i + 1) (x + dLo (rd_T165 l (i : Int))) (y + dHi (rd_T165 l (i : Int))) (by omega) (by omega) (by omega)
  rw [rd165_drop hil]
  simp only [sLo, sHi]
  rw [show x + (dLo (rd_T165 l (i : Int)) + sLo (l.drop (i + 1))) = x + dLo (rd_T165 l (i : Int)) + sLo (l.drop (i + 1)) by omega, show y + (dHi (rd_T165 l (i : Int)) + sHi (l.drop (i + 1))) = y + dHi (rd_T165 l (i : Int)) + sHi (l.drop (i + 1)) by omega]
  have w1 : wrap64 (x + dLo (rd_T165 l (i : Int))) = x + dLo (rd_T165 l (i : Int)) := w64 (by omega)
  have w2 : wrap64 (y + dHi (rd_T165 l (i : Int))) = y + dHi (rd_T165 l (i : Int)) := w64 (by omega)
  constructor
  ·refine Ev.succ (f := fun k => L_BiasOf.l0 k l l (l.length : Int) (i : Int) x y) ?_
   simp only [L_BiasOf.l0, show (i : Int) < (l.length : Int) by omega, show (0 : Int) ≤ (i : Int) by omega, if_true, diff_eq hkp, Option.bind_some, w1, w2, up (show i < 4611686018427387904 by omega)]
   exact ih.1
  ·refine Ev.succ (f := fun k => Rf_Bias.l0 k l x y (i : Int)) ?_
   simp only [Rf_Bias.l0, show (i : Int) < (l.length : Int) by omega, show (0 : Int) ≤ (i : Int) by omega, if_true, Diff_eq hkp, Option.bind_some, w1, w2, up (show i < 4611686018427387904 by omega)]
   exact ih.2
def bia (l : List S165) : Int × Int × Int × Int := biasL l (sLo l) (sHi l)
theorem BiasOf_ok {l : List S165} (h : psE l = 0) : Ev (fun k => L_BiasOf.f k l) ((bia l).1, (bia l).2.1, (bia l).2.2.1, (bia l).2.2.2, 0) ∧ Ev (fun k => Rf_Bias.f k l) (bia l) := by
 obtain ⟨h1, h2, h3⟩ := pairs_ok h
 have := Bias_l0 l h1 h2 h3 l.length 0 0 0 (by omega) (by omega) (by omega)
 simp only [List.drop_zero, Int.zero_add] at this
 refine ⟨?_, this.2⟩
 unfold L_BiasOf.f
 refine Ev.bind (pairsErr_ev l (by omega)) ?_
 simp only [h, if_true]
 exact this.1
theorem BiasOf_err {l : List S165} (hl : l.length < 4611686018427387904) (h : psE l ≠ 0) : Ev (fun k => L_BiasOf.f k l) (0, 0, 0, 0, psE l) := by
 unfold L_BiasOf.f
 refine Ev.bind (pairsErr_ev l hl) ?_
 simp only [h, if_false]; exact Ev.some
theorem CopyPairs_eq (l : List S165) (h : l.length < 4398046511104) : Rf_CopyPairs.f l = some l := by
 unfold Rf_CopyPairs.f
 simp [h]
theorem TargetAgreement_ev (l : List S165) (m : Int) : Ev (fun k => Lw_TargetAgreement.f k l m) true := by
 unfold Lw_TargetAgreement.f
 refine Ev.bind awake_ev ?_
 simp only [if_true]
 by_cases hl : (l.length : Int) > 22
 ·simp only [hl, if_true]; exact Ev.some
 ·simp only [hl, if_false, CopyPairs_eq l (by omega), Option.bind_some]
  refine Ev.bind (AgreementOf_ev l (by omega) m) ?_
  by_cases h : psE l = 0
  ·obtain ⟨b1, b2⟩ := BiasOf_ok h
   obtain ⟨l1, l2, l3⟩ := pairs_ok h
   refine Ev.bind b1 ?_
   refine Ev.bind (PairsErr_ev l (by omega)) ?_
   simp only [h, if_true]
   refine Ev.bind b2 ?_
   simp only [beq_self_eq_true, Bool.not_true, Bool.or_self]
   refine Ev.succ (f := fun k => Lw_TargetAgreement.j0 k l m _ 0 false _ _ _) ?_
   simp only [Lw_TargetAgreement.j0, Bool.false_eq_true, if_false, if_true, Within_eq, Option.bind_some]
   refine Ev.succ (f := fun k => Lw_TargetAgreement.j1 k l m _ 0 _ _ _ _) ?_
   unfold lmE
   by_cases hm : 0 ≤ m ∧ m ≤ 10000
   ·simp only [Lw_TargetAgreement.j1, hm, and_self, decide_true, Bool.not_true, Bool.false_eq_true, if_false, if_true]
    refine Ev.succ (f := fun k => Lw_TargetAgreement.j2 k l m 0 0 _ _ _) ?_
    simp only [Lw_TargetAgreement.j2, if_true]
    refine Ev.bind (Agreement_ev h hm) ?_
    have c0 := cnt_in m 0 l
    have c1 := cnt_in m 1 l
    have c2 := cnt_in m 2 l
    have cs := cnt_sum m l
    simp only [beq_self_eq_true, Bool.not_true, Bool.or_self, Bool.false_eq_true, if_false, w64 (n := cnt m 0 l + cnt m 1 l) (by omega), w64 (n := cnt m 0 l + cnt m 1 l + cnt m 2 l) (by omega), cs, w64 (n := (l.length : Int)) (by omega), bne_self_eq_false]
    refine Ev.succ (f := fun k => Lw_TargetAgreement.j3 k l m false _ _ _) ?_
    simp only [Lw_TargetAgreement.j3, Bool.false_eq_true, if_false, CopyPairs_eq l (by omega), Option.bind_some, w64 (n := m + 1) (by omega), mn_eq]
    refine Ev.bind (AgreementOf_ev l (by omega) (min 10000 (m + 1))) ?_
    have hm' : lmE (min 10000 (m + 1)) = 0 := by unfold lmE; rw [if_pos (by omega)]
    have hle : m ≤ min 10000 (m + 1) := by omega
    simp only [h, hm', if_true, show cnt (min 10000 (m + 1)) 2 l ≥ cnt m 2 l from cnt_yes hle l, cnt_no hle l, decide_true]
    exact Ev.some
   ·simp only [Lw_TargetAgreement.j1, hm, decide_false, Bool.not_false, if_false, if_true, show ¬ (2 : Int) = 0 by decide]
    refine Ev.succ (f := fun k => Lw_TargetAgreement.j2 k l m 2 2 0 0 0) ?_
    simp only [Lw_TargetAgreement.j2, show ¬ (2 : Int) = 0 by decide, if_false, if_true, beq_self_eq_true, Bool.and_self]
    exact Ev.some
  ·refine Ev.bind (BiasOf_err (by omega) h) ?_
   refine Ev.bind (PairsErr_ev l (by omega)) ?_
   simp only [h, if_false, if_true, beq_self_eq_true, Bool.not_true, Bool.or_self, Bool.false_eq_true]
   refine Ev.succ (f := fun k => Lw_TargetAgreement.j0 k l m _ _ false 0 0 0) ?_
   simp only [Lw_TargetAgreement.j0, h, Bool.false_eq_true, if_false]
   refine Ev.succ (f := fun k => Lw_TargetAgreement.j1 k l m _ _ false 0 0 0) ?_
   simp only [Lw_TargetAgreement.j1, Bool.false_eq_true, if_false]
   refine Ev.succ (f := fun k => Lw_TargetAgreement.j2 k l m _ _ 0 0 0) ?_
   simp only [Lw_TargetAgreement.j2, h, if_false, if_true, beq_self_eq_true, Bool.and_self]
   exact Ev.some
theorem TargetAgreement_pure (l : List S165) (_ : l.length ≤ maxLen ∧ ∀ x ∈ l, ((Lit.int .i64 x.f0.f0).wf = true ∧ (Lit.int .i64 x.f0.f1).wf = true) ∧ ((Lit.int .i64 x.f1.f0).wf = true ∧ (Lit.int .i64 x.f1.f1).wf = true)) (m : Int) (_ : (Lit.int .i64 m).wf = true) :
  ∃ k, Lw_TargetAgreement.f k l m = some true := (TargetAgreement_ev l m).ex
end Go.Proofs.Ytibhfahbabgbaaa.P
