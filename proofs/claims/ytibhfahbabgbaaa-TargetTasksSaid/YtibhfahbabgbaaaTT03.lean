/-
PLAIN LAW: what the walks compute answers as the statement says (no program in sight; Ev: from some number of rounds on).
-/
import Derived.Sort.LotA
import Derived.Deep.Strs
import Derived.WideShapes
import Derived.Test.YtibhfahbabgbaaaB07
import Derived.Test.YtibhfahbabgbaaaB05
import Derived.Test.YtibhfahbabgbaaaTT01
import Derived.Test.YtibhfahbabgbaaaB08
import Derived.Test.YtibhfahbabgbaaaTT02
import Derived.Test.YtibhfahbabgbaaaB16
import Derived.Test.YtibhfahbabgbaaaB06
namespace Go.Proofs.Ytibhfahbabgbaaa.P
open Go Go.RowKit Go.Proofs.Ytibhfahbabgbaaa.A Go.Proofs.YtibhfahbabgbaaaW.PrintWords Go.Proofs.YtibhfahbabgbaaaW.PrintLast Go.Proofs.YtibhfahbabgbaaaW.PrintMore
set_option linter.unusedSimpArgs false
set_option linter.unusedVariables false
/-- From some number of rounds on, f says r. -/
def Ev {α : Type} (f : Nat → Option α) (r : α) : Prop := ∃ k, ∀ j, k ≤ j → f j = some r

theorem Ev.some {α : Type} {r : α} : Ev (fun _ => Option.some r) r := ⟨0, fun _ _ => rfl⟩
theorem Ev.bind {α β : Type} {f : Nat → Option α} {g : Nat → α → Option β} {a : α} {b : β} (h : Ev f a) (h2 : Ev (fun k => g k a) b) : Ev (fun k => (f k).bind (g k)) b := by
 obtain ⟨k, hk⟩ := h
 obtain ⟨m, hm⟩ := h2
 exact ⟨max k m, fun j hj => by show (f j).bind (g j) = _; rw [hk j (by omega)]; exact hm j (by omega)⟩
theorem Ev.succ {α : Type} {f : Nat → Option α} {r : α} (h : Ev (fun k => f (k + 1)) r) : Ev f r := by
 obtain ⟨k, hk⟩ := h
 exact ⟨k + 1, fun j hj => by obtain ⟨m, rfl⟩ : ∃ m, j = m + 1 := ⟨j - 1, by omega⟩; exact hk m (by omega)⟩
theorem Ev.congr {α : Type} {f g : Nat → Option α} {r : α} (e : ∀ k, f k = g k) (h : Ev f r) : Ev g r := by
 obtain ⟨k, hk⟩ := h
 exact ⟨k, fun j hj => by rw [← e j]; exact hk j hj⟩
theorem Ev.ex {α : Type} {f : Nat → Option α} {r : α} (h : Ev f r) : ∃ k, f k = Option.some r := let ⟨k, hk⟩ := h; ⟨k, hk k (Nat.le_refl _)⟩
theorem Ev.of_mono {α : Type} {f : Nat → Option α} {r : α} (hm : ∀ k, LeO (f k) (f (k + 1))) {k : Nat} (h : f k = Option.some r) : Ev f r := by
  refine ⟨k, fun j hj => ?_⟩
  induction j with
  | zero => obtain rfl : k = 0 := by omega
            exact h
  | succ j ih =>
    by_cases e : k = j + 1
    · subst e; exact h
    · exact hm j r (ih (by omega))
theorem up {i : Nat} (h : i < 4611686018427387904) : wrap64 ((i : Int) + 1) = ((i + 1 : Nat) : Int) := by
 unfold wrap64; omega
theorem w64 {n : Int} (h : -9223372036854775808 ≤ n ∧ n ≤ 9223372036854775807) : wrap64 n = n := by unfold wrap64; omega
theorem rd_nat (l : List Int) (i : Nat) : rd l (i : Int) = l.getD i 0 := by unfold rd; simp
theorem drop_rd {l : List Int} {i : Nat} (h : i < l.length) : l.drop i = rd l (i : Int) :: l.drop (i + 1) := by
 rw [rd_nat, List.drop_eq_getElem_cons h]
 simp [List.getD_eq_getElem?_getD, h]
theorem drop_getD {α : Type} {l : List α} {i : Nat} (z : α) (h : i < l.length) : l.drop i = l.getD i z :: l.drop (i + 1) := by
 rw [List.drop_eq_getElem_cons h]
 simp [List.getD_eq_getElem?_getD, h]

theorem within_eq (a b c : Int) : L_within.f a b c = some (decide (b ≤ a ∧ a ≤ c)) := by
 unfold L_within.f
 by_cases h : b ≤ a <;> simp [h]
theorem Within_eq (a b c : Int) : Bs_Within.f a b c = some (decide (b ≤ a ∧ a ≤ c)) := by
 unfold Bs_Within.f
 by_cases h : b ≤ a <;> simp [h]
theorem unless_eq (b : Bool) (e : Int) : L_unless.f b e = some (if b = true then 0 else e) := by
 unfold L_unless.f
 cases b <;> simp
/-- The first number that is not 0. -/
def fnz : List Int → Int
 | [] => 0
 | x :: r => if x = 0 then fnz r else x

theorem first_l0 (l : List Int) (hl : l.length < 4611686018427387904) : ∀ (n i : Nat), i + n = l.length → Ev (fun k => L_first.l0 k l (l.length : Int) (i : Int)) (fnz (l.drop i))
 | 0, i, h => by
  refine Ev.succ (f := fun k => L_first.l0 k l (l.length : Int) (i : Int)) ?_
  have h1 : ¬ (i : Int) < (l.length : Int) := by omega
  simp only [L_first.l0, h1, if_false]
  rw [show l.drop i = [] from List.drop_eq_nil_of_le (by omega)]
  exact Ev.some
 | n + 1, i, h => by
  refine Ev.succ (f := fun k => L_first.l0 k l (l.length : Int) (i : Int)) ?_
  have h1 : (i : Int) < (l.length : Int) := by omega
  have h2 : (0 : Int) ≤ (i : Int) := by omega
  simp only [L_first.l0, h1, h2, if_true, up (show i < 4611686018427387904 by omega)]
  rw [drop_rd (show i < l.length by omega)]
  unfold fnz
  by_cases e : rd l (i : Int) = 0
  ·simp only [e, if_true]
   exact first_l0 l hl n (i + 1) (by omega)
  ·simp only [e, if_false]
   exact Ev.some
theorem first_ev (l : List Int) (hl : l.length < 4611686018427387904) : Ev (fun k => L_first.f k l) (fnz l) := first_l0 l hl l.length 0 (by omega)

theorem floor_core {a b : Int} (hb : 0 < b) (ha : -4611686018427387904 ≤ a ∧ a ≤ 4611686018427387904) :
  (if Int.tmod a b < 0 then some (wrap64 (wrap64 (Int.tdiv a b) - 1)) else some (wrap64 (Int.tdiv a b))) = some (a / b) := by
 have h1 : a.tdiv b * b + a.tmod b = a := Int.tdiv_mul_add_tmod a b
 have h2 : a / b * b + a % b = a := Int.ediv_mul_add_emod a b
 have h3 := Int.emod_nonneg a (show b ≠ 0 by omega)
 have h4 := Int.emod_lt_of_pos a hb
 have h5 : (a.tmod b).natAbs < b.natAbs := by rw [Int.natAbs_tmod]; exact Nat.mod_lt _ (by omega)
 have h6 : (a.tdiv b).natAbs ≤ a.natAbs := by rw [Int.natAbs_tdiv]; exact Nat.div_le_self _ _
 have key : ∀ q r p s : Int, q * b + r = p * b + s → -b < r → r < b → 0 ≤ s → s < b → (r < 0 → p = q - 1) ∧ (0 ≤ r → p = q) := by
  intro q r p s h hr1 hr2 hs1 hs2
  have e : (q - p) * b = s - r := by rw [Int.sub_mul]; omega
  constructor
  ·intro hr
   have u1 : 0 < q - p := by
    apply Int.lt_of_not_ge; intro hc
    have := Int.mul_le_mul_of_nonneg_right hc (show 0 ≤ b by omega)
    omega
   have u2 : q - p < 2 := by
    apply Int.lt_of_not_ge; intro hc
    have := Int.mul_le_mul_of_nonneg_right hc (show 0 ≤ b by omega)
    omega
   omega
  ·intro hr
   have u1 : -1 < q - p := by
    apply Int.lt_of_not_ge; intro hc
    have := Int.mul_le_mul_of_nonneg_right hc (show 0 ≤ b by omega)
    omega
   have u2 : q - p < 1 := by
    apply Int.lt_of_not_ge; intro hc
    have := Int.mul_le_mul_of_nonneg_right hc (show 0 ≤ b by omega)
    omega
   omega
 obtain ⟨k1, k2⟩ := key (a.tdiv b) (a.tmod b) (a / b) (a % b) (by omega) (by omega) (by omega) h3 h4
 by_cases hr : a.tmod b < 0
 ·rw [if_pos hr, k1 hr, w64 (n := a.tdiv b) (by omega), w64 (by omega)]
 ·rw [if_neg hr, k2 (by omega), w64 (by omega)]
theorem floor_eq {a b : Int} (hb : 0 < b) (ha : -4611686018427387904 ≤ a ∧ a ≤ 4611686018427387904) : L_floor.f a b = some (a / b) := by
 unfold L_floor.f; rw [if_neg (by omega)]; exact floor_core hb ha
theorem Floor_eq {a b : Int} (hb : 0 < b) (ha : -4611686018427387904 ≤ a ∧ a ≤ 4611686018427387904) : Bs_Floor.f a b = some (a / b) := by
 unfold Bs_Floor.f; rw [if_neg (by omega)]; exact floor_core hb ha
/-- A quotient rounded up. -/
def cdiv (a b : Int) : Int := -((-a) / b)
theorem div_in {a b M : Int} (hb : 0 < b) (ha : -M ≤ a ∧ a ≤ M) : -M ≤ a / b ∧ a / b ≤ M := by
 have h6 : (a / b).natAbs ≤ a.natAbs := Int.natAbs_ediv_le_natAbs a b
 omega
theorem ceil_eq {a b : Int} (hb : 0 < b) (ha : -4611686018427387904 ≤ a ∧ a ≤ 4611686018427387904) : L_ceil.f a b = some (cdiv a b) := by
 have := div_in hb (a := -a) (M := 4611686018427387904) (by omega)
 unfold L_ceil.f cdiv
 rw [w64 (n := -a) (by omega), floor_eq hb (by omega)]
 simp only [Option.bind_some]
 rw [w64 (by omega)]
theorem Ceil_eq {a b : Int} (hb : 0 < b) (ha : -4611686018427387904 ≤ a ∧ a ≤ 4611686018427387904) : Bs_Ceil.f a b = some (cdiv a b) := by
 have := div_in hb (a := -a) (M := 4611686018427387904) (by omega)
 unfold Bs_Ceil.f cdiv
 rw [w64 (n := -a) (by omega), Floor_eq hb (by omega)]
 simp only [Option.bind_some]
 rw [w64 (by omega)]

def lt2 {α : Type} (lt : α → α → Bool) (T : α → Int) (x y : α) : Bool := lt x y || (!lt y x && decide (T x < T y))
theorem lt2_old {α : Type} (lt : α → α → Bool) (T : α → Int) {x y : α} (h : T y < T x) : lt2 lt T x y = lt x y := by
 unfold lt2
 rw [show decide (T x < T y) = false from decide_eq_false (by omega)]
 cases lt x y <;> cases lt y x <;> rfl
theorem inner_eq {α : Type} [Inhabited α] (lt : α → α → Bool) (T : α → Int) : ∀ (j : Nat) (d : Array α), j < d.size → (∀ p, p < j → T d[p]! < T d[j]!) → Go.Sort.insInner lt 0 j d = Go.Sort.insInner (lt2 lt T) 0 j d
 | 0, d, _, _ => rfl
 | j + 1, d, hj, h => by
  unfold Go.Sort.insInner
  rw [lt2_old lt T (h j (by omega))]
  split
  ·refine inner_eq lt T j _ (by rw [Go.Sort.swp_size]; omega) fun p hp => ?_
   rw [Go.Sort.swp_get d hj (by omega), Go.Sort.swp_get d hj (by omega)]
   rw [if_neg (by omega), if_neg (by omega), if_pos rfl]
   exact h p (by omega)
  ·rfl
theorem inner_mem {α : Type} [Inhabited α] (lt : α → α → Bool) : ∀ (j : Nat) (d : Array α), j < d.size → (∀ q, j < q → (Go.Sort.insInner lt 0 j d)[q]! = d[q]!) ∧ (∀ p, p ≤ j → ∃ p', p' ≤ j ∧ (Go.Sort.insInner lt 0 j d)[p]! = d[p']!)
 | 0, d, _ => ⟨fun _ _ => rfl, fun p hp => ⟨p, hp, rfl⟩⟩
 | j + 1, d, hj => by
  unfold Go.Sort.insInner
  split
  ·obtain ⟨h1, h2⟩ := inner_mem lt j (Go.Sort.swp d (j + 1) j) (by rw [Go.Sort.swp_size]; omega)
   refine ⟨fun q hq => ?_, fun p hp => ?_⟩
   ·rw [h1 q (by omega), Go.Sort.swp_get d hj (by omega), if_neg (by omega), if_neg (by omega)]
   ·by_cases hp1 : p ≤ j
    ·obtain ⟨p', hp', e⟩ := h2 p hp1
     rw [e, Go.Sort.swp_get d hj (by omega)]
     split
     ·exact ⟨j + 1, by omega, rfl⟩
     ·split
      ·exact ⟨j, by omega, rfl⟩
      ·exact ⟨p', by omega, rfl⟩
    ·obtain rfl : p = j + 1 := by omega
     rw [h1 _ (by omega), Go.Sort.swp_get d hj (by omega)]
     rw [if_neg (by omega), if_pos rfl]
     exact ⟨j, by omega, rfl⟩
  ·exact ⟨fun _ _ => rfl, fun p hp => ⟨p, hp, rfl⟩⟩
theorem insI_size {α : Type} [Inhabited α] (lt : α → α → Bool) (a : Nat) : ∀ (j : Nat) (d : Array α), (Go.Sort.insInner lt a j d).size = d.size
 | 0, d => rfl
 | j + 1, d => by
  unfold Go.Sort.insInner
  split
  ·rw [insI_size lt a j]; simp [Go.Sort.swp]
  ·rfl
theorem outer_eq {α : Type} [Inhabited α] (lt : α → α → Bool) (T : α → Int) (b : Nat) : ∀ (m i : Nat) (d : Array α), b - i = m → b ≤ d.size → (∀ p q, p < q → i ≤ q → q < b → T d[p]! < T d[q]!) → Go.Sort.insOuter lt 0 b i d = Go.Sort.insOuter (lt2 lt T) 0 b i d
 | 0, i, d, hm, _, _ => by
  have e : ∀ lt' : α → α → Bool, Go.Sort.insOuter lt' 0 b i d = d := fun lt' => by rw [Go.Sort.insOuter, if_neg (by omega)]
  rw [e, e]
 | m + 1, i, d, hm, hb, h => by
  have hi : i < d.size := by omega
  rw [Go.Sort.insOuter, if_pos (by omega)]
  conv => rhs; rw [Go.Sort.insOuter, if_pos (by omega)]
  rw [← inner_eq lt T i d hi (fun p hp => h p i hp (Nat.le_refl _) (by omega))]
  obtain ⟨h1, h2⟩ := inner_mem lt i d hi
  refine outer_eq lt T b m (i + 1) _ (by omega) (by rw [insI_size]; exact hb) fun p q hpq hq hqb => ?_
  rw [h1 q (by omega)]
  by_cases hp : p ≤ i
  ·obtain ⟨p', hp', e⟩ := h2 p hp
   rw [e]; exact h p' q (by omega) (by omega) hqb
  ·rw [h1 p (by omega)]; exact h p q hpq (by omega) hqb
theorem lt2_swo {α : Type} (lt : α → α → Bool) (T : α → Int) (hS : Go.Sort.SWO lt) : Go.Sort.SWO (lt2 lt T) where
 irrefl x := by unfold lt2; rw [hS.irrefl]; simp
 trans x y z h1 h2 := by
  unfold lt2 at h1 h2 ⊢
  cases a : lt x y <;> cases b : lt y z <;> cases c : lt y x <;> cases e : lt z y <;> simp [a, b, c, e] at h1 h2 ⊢
  all_goals first
   | (left; exact hS.trans _ _ _ a b)
   | skip
  all_goals (
   cases g : lt x z
   ·cases g2 : lt z x
    ·first
     | (simp; omega)
     | (have := hS.ntrans _ _ _ g e; simp_all; done)
     | (have := hS.ntrans _ _ _ c g; simp_all; done)
     | (have := hS.ntrans _ _ _ g2 a; simp_all; done)
     | (have := hS.ntrans _ _ _ b g2; simp_all; done)
     | (simp_all; done)
    ·first
     | (have := hS.trans _ _ _ g2 a; simp_all; done)
     | (have := hS.trans _ _ _ b g2; simp_all; done)
     | (have := hS.ntrans _ _ _ e c; simp_all; done)
   ·simp)
 ntrans x y z h1 h2 := by
  unfold lt2 at h1 h2 ⊢
  cases a : lt x y <;> cases b : lt y z <;> simp [a, b] at h1 h2 ⊢
  refine ⟨hS.ntrans _ _ _ a b, fun g => ?_⟩
  cases c : lt y x
  ·cases e : lt z y
   ·have := h1 c; have := h2 e; omega
   ·have := hS.ntrans _ _ _ g a
    simp_all
  ·have := hS.ntrans _ _ _ b g
   simp_all
def isNm (s : ByteArray) : Bool := nameFrom 0 (strNums s) && decide ((1 : Int) ≤ (s.size : Int) ∧ (s.size : Int) ≤ 12)
theorem strNums_len (s : ByteArray) : (strNums s).length = s.size := by unfold strNums; simp
theorem strNums_drop {s : ByteArray} {i : Nat} (h : i < s.size) : (strNums s).drop i = bt s (i : Int) :: (strNums s).drop (i + 1) := by
 have h1 : i < (strNums s).length := by rw [strNums_len]; exact h
 rw [List.drop_eq_getElem_cons h1]
 have h2 : (strNums s)[i] = bt s (i : Int) := by
  have e : (strNums s)[i]? = some (bt s (i : Int)) := by
   unfold strNums bt
   rw [List.getElem?_map, List.getElem?_eq_getElem (by simpa using h)]
   simp only [Option.map_some, Int.toNat_natCast, h, dif_pos]
   rfl
  rw [List.getElem?_eq_getElem h1] at e
  exact Option.some.inj e
 rw [h2]
theorem bt_in (s : ByteArray) (i : Int) : 0 ≤ bt s i ∧ bt s i ≤ 255 := by
 unfold bt
 split
 ·have := UInt8.toNat_lt (s[i.toNat]'(by assumption)); omega
 ·omega
theorem letter : ∀ c : Fin 256, (97 ≤ Go.bits .or .u8 (c.val : Int) 32 ∧ Go.bits .or .u8 (c.val : Int) 32 ≤ 122) ↔ (97 ≤ c.val ∧ c.val ≤ 122 ∨ 65 ≤ c.val ∧ c.val ≤ 90) := by decide +kernel
theorem bits_in : ∀ c : Fin 256, 0 ≤ Go.bits .or .u8 (c.val : Int) 32 ∧ Go.bits .or .u8 (c.val : Int) 32 ≤ 255 := by decide +kernel
theorem nameCh_iff {i : Nat} {c : Int} (h : 0 ≤ c ∧ c ≤ 255) : nameCh i c = true ↔ ((97 ≤ c ∧ c ≤ 122 ∨ 65 ≤ c ∧ c ≤ 90) ∨ (i ≠ 0 ∧ (c = 45 ∨ 48 ≤ c ∧ c ≤ 57))) := by
 obtain ⟨n, rfl⟩ : ∃ n : Nat, c = (n : Int) := ⟨c.toNat, by omega⟩
 have h1 := letter ⟨n, by omega⟩
 have h2 := bits_in ⟨n, by omega⟩
 simp only at h1 h2
 unfold nameCh
 rw [w64 (n := Go.bits .or .u8 (n : Int) 32) (by omega), w64 (n := (n : Int)) (by omega)]
 simp only [Bool.or_eq_true, Bool.and_eq_true, Bool.not_eq_true', decide_eq_true_eq, decide_eq_false_iff_not]
 rw [h1]
 omega
theorem IsName_l0 (s : ByteArray) (hs : s.size < 4611686018427387904) : ∀ (n i : Nat), i + n = s.size → Ev (fun k => Bs_IsName.l0 k s (i : Int)) (nameFrom i ((strNums s).drop i))
 | 0, i, h => by
  refine Ev.succ (f := fun k => Bs_IsName.l0 k s (i : Int)) ?_
  simp only [Bs_IsName.l0, show ¬ (i : Int) < (s.size : Int) by omega, if_false]
  rw [show (strNums s).drop i = [] from List.drop_eq_nil_of_le (by rw [strNums_len]; omega)]
  exact Ev.some
 | n + 1, i, h => by
  refine Ev.succ (f := fun k => Bs_IsName.l0 k s (i : Int)) ?_
  have hi : i < s.size := by omega
  have hc := bt_in s (i : Int)
  have hch := nameCh_iff (i := i) hc
  have ih := IsName_l0 s hs n (i + 1) (by omega)
  rw [strNums_drop hi]
  unfold nameFrom
  simp only [Bs_IsName.l0, show (i : Int) < (s.size : Int) by omega, show (0 : Int) ≤ (i : Int) by omega, if_true, up (show i < 4611686018427387904 by omega)]
  generalize bt s (i : Int) = c at hc hch ⊢
  cases hb : nameCh i c with
  | true =>
   have hp := hch.1 hb
   simp only [Bool.true_and]
   refine Ev.congr (fun k => ?_) ih
   symm
   repeat' split
   all_goals first | rfl | (exfalso; omega)
  | false =>
   have hp : ¬ ((97 ≤ c ∧ c ≤ 122 ∨ 65 ≤ c ∧ c ≤ 90) ∨ (i ≠ 0 ∧ (c = 45 ∨ 48 ≤ c ∧ c ≤ 57))) := fun h => by rw [hch.2 h] at hb; cases hb
   simp only [Bool.false_and]
   refine Ev.congr (fun k => ?_) (Ev.some (r := false))
   symm
   repeat' split
   all_goals first | rfl | (exfalso; omega)
theorem IsName_ev (s : ByteArray) : Ev (fun k => Bs_IsName.f k s) (isNm s) := by
  unfold Bs_IsName.f isNm
  have h1 : ∀ b : Bool, (b = false → s.size ≤ 12) → Ev (fun k => Bs_IsName.j0 k s b) (!b && nameFrom 0 (strNums s)) := by
    intro b hb
    refine Ev.succ (f := fun k => Bs_IsName.j0 k s b) ?_
    cases b with
    | true => simp only [Bs_IsName.j0, if_true, Bool.not_true, Bool.false_and]; exact Ev.some
    | false =>
      have := hb rfl
      simp only [Bs_IsName.j0, Bool.false_eq_true, if_false, Bool.not_false, Bool.true_and]
      have := IsName_l0 s (by omega) s.size 0 (by omega)
      simpa using this
  by_cases h0 : (s.size : Int) < 1
  · have := h1 true (by simp)
    simp only [h0, if_true, show ¬ ((1 : Int) ≤ (s.size : Int) ∧ (s.size : Int) ≤ 12) by omega, decide_false, Bool.and_false]
    simpa using this
  · by_cases h2 : (s.size : Int) > 12
    · have := h1 true (by simp)
      simp only [h0, h2, if_false, decide_true, show ¬ ((1 : Int) ≤ (s.size : Int) ∧ (s.size : Int) ≤ 12) by omega, decide_false, Bool.and_false]
      simpa using this
    · have := h1 false (by omega)
      simp only [h0, h2, if_false, decide_false, show ((1 : Int) ≤ (s.size : Int) ∧ (s.size : Int) ≤ 12) by omega, and_self, decide_true, Bool.and_true]
      simpa using this
theorem isName_eq {s : ByteArray} (hs : s.size ≤ 9223372036854775807) : L_isName.f s = some (isNm s) := by
 unfold L_isName.f isNm
 rw [if_pos hs]

def inT (t : S42) : Prop := (0 ≤ t.f1 ∧ t.f1 ≤ 1000) ∧ (0 ≤ t.f2 ∧ t.f2 ≤ 1000)
instance (t : S42) : Decidable (inT t) := by unfold inT; infer_instance
/-- The error of a task. -/
def tkE (l : List S42) (i : Nat) : Int :=
 if isNm (rd_T42 l (i : Int)).f0 = true then (if seenAt l (i : Int) = true then 5 else if inT (rd_T42 l (i : Int)) then 0 else 2) else 4
/-- The first task that is not valid, of the n from i on. -/
def chkF (l : List S42) : Nat → Nat → Int × Int
 | 0, _ => (0, 0)
 | n + 1, i => if tkE l i = 0 then chkF l n (i + 1) else ((i : Int), tkE l i)
def chkT (l : List S42) : Int × Int := if (l.length : Int) > 10 then (0, 8) else chkF l l.length 0
def NameSz (l : List S42) : Prop := ∀ t ∈ l, t.f0.size ≤ 9223372036854775807
theorem rd42_mem {l : List S42} {i : Nat} (h : i < l.length) : rd_T42 l (i : Int) ∈ l := by
 unfold rd_T42
 simp only [Int.toNat_natCast, List.getD_eq_getElem?_getD, List.getElem?_eq_getElem h, Option.getD_some]
 exact List.getElem_mem h
theorem CheckTasks_l0 (l : List S42) (hl : l.length ≤ 10) (hs : NameSz l) : ∀ (n i : Nat), i + n = l.length → Ev (fun k => L_CheckTasks.l0 k l (l.length : Int) (i : Int)) (chkF l n i)
 | 0, i, h => by
  refine Ev.succ (f := fun k => L_CheckTasks.l0 k l (l.length : Int) (i : Int)) ?_
  simp only [L_CheckTasks.l0, show ¬ (i : Int) < (l.length : Int) by omega, if_false, chkF]
  exact Ev.some
 | n + 1, i, h => by
  refine Ev.succ (f := fun k => L_CheckTasks.l0 k l (l.length : Int) (i : Int)) ?_
  have ih := CheckTasks_l0 l hl hs n (i + 1) (by omega)
  have hi : i < l.length := by omega
  simp only [L_CheckTasks.l0, show (i : Int) < (l.length : Int) by omega, show (0 : Int) ≤ (i : Int) by omega, if_true, isName_eq (hs _ (rd42_mem hi)), unless_eq, within_eq, Option.bind_some, up (show i < 4611686018427387904 by omega), chkF]
  have key : ∀ u : Int, u = (if inT (rd_T42 l (i : Int)) then 0 else 2) → fnz [if isNm (rd_T42 l (i : Int)).f0 = true then 0 else 4, if (!seenAt l (i : Int)) = true then 0 else 5, u] = tkE l i := by
   intro u hu
   subst hu
   unfold tkE
   cases isNm (rd_T42 l (i : Int)).f0 <;> cases seenAt l (i : Int) <;> by_cases h3 : inT (rd_T42 l (i : Int)) <;> simp [fnz, h3]
  have hend : ∀ u : Int, u = (if inT (rd_T42 l (i : Int)) then 0 else 2) → Ev (fun k => (L_first.f k [if isNm (rd_T42 l (i : Int)).f0 = true then 0 else 4, if (!seenAt l (i : Int)) = true then 0 else 5, u]).bind fun t113 => if t113 = 0 then L_CheckTasks.l0 k l (l.length : Int) ((i + 1 : Nat) : Int) else some ((i : Int), t113)) (if tkE l i = 0 then chkF l n (i + 1) else ((i : Int), tkE l i)) := by
   intro u hu
   refine Ev.bind (first_ev _ (by simp)) ?_
   rw [key u hu]
   by_cases h0 : tkE l i = 0
   ·simp only [h0, if_true]; exact ih
   ·simp only [h0, if_false]; exact Ev.some
  by_cases h1 : 0 ≤ (rd_T42 l (i : Int)).f1 ∧ (rd_T42 l (i : Int)).f1 ≤ 1000
  ·simp only [h1, and_self, decide_true, if_true, decide_eq_true_eq]
   refine hend _ ?_
   simp only [inT, h1, and_self, true_and]
  ·simp only [h1, decide_false, Bool.false_eq_true, if_false]
   refine hend _ ?_
   simp only [inT, h1, false_and, if_false]
theorem CheckTasks_ev (l : List S42) (hs : NameSz l) : Ev (fun k => L_CheckTasks.f k l) (chkT l) := by
 unfold L_CheckTasks.f chkT
 by_cases h : (l.length : Int) > 10
 ·simp only [h, if_true]; exact Ev.some
 ·simp only [h, if_false]; exact CheckTasks_l0 l (by omega) hs l.length 0 (by omega)

theorem bytes_eq (a b : ByteArray) : (a.toList = b.toList) ↔ a = b := by
 constructor
 ·intro h
  rw [Lib.toList_data, Lib.toList_data] at h
  exact Go.WideShapes.bytes_inj h
 ·rintro rfl; rfl
/-- Whether one of the first tasks has the name. -/
def seenFrom (l : List S42) (i j : Nat) : Bool := hasName (((l.take i).drop j).map fun t => t.f0) (rd_T42 l (i : Int)).f0
theorem seen_eq (l : List S42) (i : Nat) : seenAt l (i : Int) = seenFrom l i 0 := by
 unfold seenAt seenFrom namesTo
 simp
theorem CheckTasks_l1 (l : List S42) (hl : l.length ≤ 10) (i : Nat) (hi : i < l.length) (r : Int × Int) (hr : Ev (fun k => Rf_CheckTasks.l0 k l ((i + 1 : Nat) : Int)) r) : ∀ (n j : Nat), j + n = i →
  Ev (fun k => Rf_CheckTasks.l1 k l (i : Int) (j : Int)) (if seenFrom l i j = true then ((i : Int), 5) else if inT (rd_T42 l (i : Int)) then r else ((i : Int), 2))
 | 0, j, h => by
  obtain rfl : j = i := by omega
  refine Ev.succ (f := fun k => Rf_CheckTasks.l1 k l (j : Int) (j : Int)) ?_
  have : seenFrom l j j = false := by
   unfold seenFrom
   rw [List.drop_eq_nil_of_le (by simp; omega)]; rfl
  simp only [Rf_CheckTasks.l1, show ¬ (j : Int) < (j : Int) by omega, show (j : Int) < (l.length : Int) by omega, show (0 : Int) ≤ (j : Int) by omega, if_true, if_false, Within_eq, Option.bind_some, this, Bool.false_eq_true, up (show j < 4611686018427387904 by omega), decide_eq_true_eq]
  by_cases h1 : 0 ≤ (rd_T42 l (j : Int)).f1 ∧ (rd_T42 l (j : Int)).f1 ≤ 1000
  ·by_cases h2 : 0 ≤ (rd_T42 l (j : Int)).f2 ∧ (rd_T42 l (j : Int)).f2 ≤ 1000
   ·simp only [inT, h1, h2, and_self, if_true]; exact hr
   ·simp only [inT, h1, h2, and_self, and_false, if_true, if_false]; exact Ev.some
  ·simp only [inT, h1, false_and, if_false]; exact Ev.some
 | n + 1, j, h => by
  refine Ev.succ (f := fun k => Rf_CheckTasks.l1 k l (i : Int) (j : Int)) ?_
  have ih := CheckTasks_l1 l hl i hi r hr n (j + 1) (by omega)
  have hj : j < l.length := by omega
  have hs : ∀ p : Prop, [Decidable p] → (p ↔ (rd_T42 l (j : Int)).f0 = (rd_T42 l (i : Int)).f0) → seenFrom l i j = (decide p || seenFrom l i (j + 1)) := by
   intro p _ hp
   unfold seenFrom
   have hd : (l.take i).drop j = rd_T42 l (j : Int) :: (l.take i).drop (j + 1) := by
    rw [drop_getD z42 (show j < (l.take i).length by simp; omega)]
    congr 1
    unfold rd_T42
    simp [List.getD_eq_getElem?_getD, List.getElem?_take, show j < i by omega]
   rw [hd, List.map_cons, Bool.eq_iff_iff, hasName_iff, Bool.or_eq_true, hasName_iff, List.mem_cons, decide_eq_true_eq, hp]
   exact ⟨fun h => h.imp Eq.symm id, fun h => h.imp Eq.symm id⟩
  simp only [Rf_CheckTasks.l1, show (j : Int) < (i : Int) by omega, show (j : Int) < (l.length : Int) by omega, show (i : Int) < (l.length : Int) by omega, show (0 : Int) ≤ (i : Int) by omega, show (0 : Int) ≤ (j : Int) by omega, if_true, up (show j < 4611686018427387904 by omega), bytes_eq]
  by_cases e : (rd_T42 l (j : Int)).f0 = (rd_T42 l (i : Int)).f0
  ·rw [hs True ⟨fun _ => e, fun _ => trivial⟩]
   simp only [e, if_true, decide_true, Bool.true_or]; exact Ev.some
  ·rw [hs False ⟨fun h => h.elim, fun h => e h⟩]
   simp only [e, if_false, decide_false, Bool.false_or]; exact ih
theorem RefTasks_l0 (l : List S42) (hl : l.length ≤ 10) : ∀ (n i : Nat), i + n = l.length → Ev (fun k => Rf_CheckTasks.l0 k l (i : Int)) (chkF l n i)
  | 0, i, h => by
    refine Ev.succ (f := fun k => Rf_CheckTasks.l0 k l (i : Int)) ?_
    simp only [Rf_CheckTasks.l0, show ¬ (i : Int) < (l.length : Int) by omega, if_false, chkF]
    exact Ev.some
  | n + 1, i, h => by
    refine Ev.succ (f := fun k => Rf_CheckTasks.l0 k l (i : Int)) ?_
    have ih := RefTasks_l0 l hl n (i + 1) (by omega)
    simp only [Rf_CheckTasks.l0, show (i : Int) < (l.length : Int) by omega, show (0 : Int) ≤ (i : Int) by omega, if_true, chkF]
    refine Ev.bind (IsName_ev _) ?_
    have h1 := CheckTasks_l1 l hl i (by omega) _ ih i 0 (by omega)
    rw [← seen_eq] at h1
    unfold tkE
    cases isNm (rd_T42 l (i : Int)).f0 with
    | false => simp only [Bool.false_eq_true, if_false, show ¬ (4 : Int) = 0 by decide]; exact Ev.some
    | true =>
      simp only [if_true]
      cases hq : seenAt l (i : Int) with
      | true => rw [hq] at h1; simp only [if_true, show ¬ (5 : Int) = 0 by decide, if_false] at h1 ⊢; exact h1
      | false =>
        rw [hq] at h1
        by_cases h3 : inT (rd_T42 l (i : Int))
        · simp only [h3, Bool.false_eq_true, if_true, if_false] at h1 ⊢; exact h1
        · simp only [h3, Bool.false_eq_true, if_false, show ¬ (2 : Int) = 0 by decide] at h1 ⊢; exact h1
theorem RefTasks_ev (l : List S42) : Ev (fun k => Rf_CheckTasks.f k l) (chkT l) := by
 unfold Rf_CheckTasks.f chkT
 by_cases h : (l.length : Int) > 10
 ·simp only [h, if_true]; exact Ev.some
 ·simp only [h, if_false]; exact RefTasks_l0 l (by omega) l.length 0 (by omega)
/-- The error of tasks and hours. -/
def tsE (l : List S42) (h : Int) : Int := if (chkT l).2 = 0 then (if 1 ≤ h ∧ h ≤ 24 then 0 else 2) else (chkT l).2
theorem TasksErr_ev (l : List S42) (h : Int) : Ev (fun k => Rf_TasksErr.f k l h) (tsE l h) := by
 unfold Rf_TasksErr.f tsE
 refine Ev.bind (RefTasks_ev l) ?_
 simp only [Within_eq, Option.bind_some, decide_eq_true_eq]
 by_cases h1 : (chkT l).2 = 0
 ·by_cases h2 : 1 ≤ h ∧ h ≤ 24
  ·simp only [h1, h2, and_self, if_true]; exact Ev.some
  ·simp only [h1, h2, if_true, if_false]; exact Ev.some
 ·simp only [h1, if_false]; exact Ev.some
theorem chkF_ok (l : List S42) : ∀ (n i : Nat), (chkF l n i).2 = 0 → ∀ j, i ≤ j → j < i + n → tkE l j = 0
 | 0, i, _, j, h1, h2 => by omega
 | n + 1, i, h, j, h1, h2 => by
  unfold chkF at h
  by_cases e : tkE l i = 0
  ·rw [if_pos e] at h
   by_cases hj : j = i
   ·rw [hj]; exact e
   ·exact chkF_ok l n (i + 1) h j (by omega) (by omega)
  ·rw [if_neg e] at h; exact absurd h e
/-- Valid tasks: their days and hours are in range. -/
theorem tasks_in {l : List S42} (h : (chkT l).2 = 0) : l.length ≤ 10 ∧ ∀ i : Nat, i < l.length → inT (rd_T42 l (i : Int)) := by
 unfold chkT at h
 by_cases h1 : (l.length : Int) > 10
 ·rw [if_pos h1] at h; cases h
 ·rw [if_neg h1] at h
  refine ⟨by omega, fun i hi => ?_⟩
  have := chkF_ok l l.length 0 h i (by omega) (by omega)
  unfold tkE at this
  split at this
  ·split at this
   ·cases this
   ·split at this
    ·assumption
    ·cases this
  ·cases this
theorem CopyTasks_eq (l : List S42) (h : l.length < 4398046511104) : Rf_CopyTasks.f l = some l := by
 unfold Rf_CopyTasks.f
 simp [h]
def due (l : List S42) (i : Nat) : Int := (rd_T42 l (i : Int)).f1
def hrs (l : List S42) (i : Nat) : Int := (rd_T42 l (i : Int)).f2
/-- One task is done before another one. -/
def lexL (l : List S42) (x y : Nat) : Prop := due l x < due l y ∨ (due l x = due l y ∧ x < y)
instance (l : List S42) (x y : Nat) : Decidable (lexL l x y) := by unfold lexL; infer_instance

theorem due_ix {l : List S42} (i : Ix l) : (rd_T42 l i.1).f1 = due l i.1.toNat := by
 unfold due
 rw [Int.toNat_of_nonneg i.2.1]
theorem ltOf_due {l : List S42} (h : ∀ i : Nat, i < l.length → inT (rd_T42 l (i : Int))) (x y : Ix l) : ltOf (dueCmp l) x y = decide (due l x.1.toNat < due l y.1.toNat) := by
 have hx := x.2; have hy := y.2
 have h1 := (h x.1.toNat (by omega)).1
 have h2 := (h y.1.toNat (by omega)).1
 rw [Int.toNat_of_nonneg hx.1] at h1
 rw [Int.toNat_of_nonneg hy.1] at h2
 unfold ltOf dueCmp
 rw [w64 (by omega), due_ix, due_ix]
 rw [Bool.eq_iff_iff, decide_eq_true_eq, decide_eq_true_eq]
 omega
theorem swo_due {l : List S42} (h : ∀ i : Nat, i < l.length → inT (rd_T42 l (i : Int))) : Go.Sort.SWO (ltOf (dueCmp l)) where
 irrefl x := by rw [ltOf_due h]; simp
 trans x y z h1 h2 := by
  rw [ltOf_due h, decide_eq_true_eq] at *
  omega
 ntrans x y z h1 h2 := by
  rw [ltOf_due h, decide_eq_false_iff_not] at *
  omega
theorem sortIx_spec {l : List S42} (hl : 0 < l.length) (h : ∀ i : Nat, i < l.length → inT (rd_T42 l (i : Int))) (xs : List (Ix l)) (hx : xs.map (fun i => i.1) = (List.range l.length).map (fun n : Nat => (n : Int))) :
  ∃ ord : List Nat, sortIx l hl xs = ord.map (fun n : Nat => (n : Int)) ∧ ord.Perm (List.range l.length) ∧ ord.Pairwise (lexL l) := by
 letI : Inhabited (Ix l) := ⟨ix0 hl⟩
 have hlen : xs.length = l.length := by
  have := congrArg List.length hx
  simpa using this
 have hget : ∀ p : Nat, p < l.length → (xs.toArray[p]!).1 = (p : Int) := by
  intro p hp
  rw [getElem!_pos xs.toArray p (by simp; omega)]
  have h1 : (xs.map (fun i : Ix l => i.1))[p]? = some (p : Int) := by
   rw [hx, List.getElem?_map, List.getElem?_range hp]; rfl
  rw [List.getElem?_map, List.getElem?_eq_getElem (by omega)] at h1
  simpa using h1
 obtain ⟨res, hres⟩ : ∃ res, res = Go.Sort.insertionSort (ltOf (dueCmp l)) xs.toArray 0 xs.toArray.size := ⟨_, rfl⟩
 have hres2 : res = Go.Sort.insertionSort (lt2 (ltOf (dueCmp l)) (fun x : Ix l => x.1)) xs.toArray 0 xs.toArray.size := by
  rw [hres]
  unfold Go.Sort.insertionSort
  refine outer_eq _ (fun x : Ix l => x.1) xs.toArray.size _ 1 xs.toArray rfl (Nat.le_refl _) fun p q hpq hq hqb => ?_
  have hq' : q < l.length := by simpa [hlen] using hqb
  rw [hget p (by omega), hget q hq']
  omega
 obtain ⟨hp, hsr⟩ := Go.Sort.insertionSort_holds (lt := lt2 (ltOf (dueCmp l)) (fun x : Ix l => x.1)) (lt2_swo _ _ (swo_due h)) xs.toArray 0 xs.toArray.size (Nat.zero_le _) (Nat.le_refl _)
 rw [← hres2] at hp hsr
 obtain ⟨hsz, _, hperm⟩ := hp
 have hperm' : res.toList.Perm xs := by
  have e1 : res.extract 0 xs.toArray.size = res := by rw [← hsz]; simp
  have e2 : xs.toArray.extract 0 xs.toArray.size = xs.toArray := by simp
  rw [e1, e2] at hperm
  simpa using hperm
 have hpn : (res.toList.map (fun x : Ix l => x.1.toNat)).Perm (List.range l.length) := by
  have h1 := hperm'.map (fun x : Ix l => x.1.toNat)
  have h2 : xs.map (fun x : Ix l => x.1.toNat) = List.range l.length := by
   have := congrArg (fun z : List Int => z.map Int.toNat) hx
   simp only [List.map_map] at this
   have e : (Int.toNat ∘ fun n : Nat => (n : Int)) = id := by funext n; simp
   rw [e, List.map_id] at this
   exact this
  rw [h2] at h1
  exact h1
 refine ⟨res.toList.map (fun x : Ix l => x.1.toNat), ?_, hpn, ?_⟩
 ·unfold sortIx
  show (Go.Sort.insertionSort (ltOf (dueCmp l)) xs.toArray 0 xs.toArray.size).toList.map (fun x : Ix l => x.1) = _
  rw [← hres, List.map_map]
  apply List.map_congr_left
  intro x _
  simp only [Function.comp]
  rw [Int.toNat_of_nonneg x.2.1]
 ·have hnd : (res.toList.map (fun x : Ix l => x.1.toNat)).Nodup := hpn.nodup_iff.2 List.nodup_range
  rw [List.pairwise_iff_getElem]
  intro i j hi hj hij
  have hne : (res.toList.map (fun x : Ix l => x.1.toNat))[i] ≠ (res.toList.map (fun x : Ix l => x.1.toNat))[j] := List.pairwise_iff_getElem.1 hnd i j hi hj hij
  have hi' : i < res.size := by simpa using hi
  have hj' : j < res.size := by simpa using hj
  have h1 := hsr i j (Nat.zero_le _) hij (by omega)
  rw [getElem!_pos res i hi', getElem!_pos res j hj'] at h1
  simp only [List.getElem_map, Array.getElem_toList] at hne ⊢
  unfold lt2 at h1
  rw [ltOf_due h, ltOf_due h] at h1
  simp only [Bool.or_eq_false_iff, Bool.and_eq_false_iff, Bool.not_eq_false', decide_eq_false_iff_not, decide_eq_true_eq] at h1
  have a1 := res[i].2.1
  have a2 := res[j].2.1
  unfold lexL
  omega

theorem queue_l0 (l : List S42) (hl10 : l.length ≤ 10) (r : List Int) (hr : queueSort l ((List.range l.length).map (fun n : Nat => (n : Int))) = some r) : ∀ (n i : Nat), i + n = l.length →
  Ev (fun k => L_queue.l0 k l ((List.range i).map (fun n : Nat => (n : Int))) (l.length : Int) (i : Int)) (r, 0)
 | 0, i, h => by
  refine Ev.succ (f := fun k => L_queue.l0 k l ((List.range i).map (fun n : Nat => (n : Int))) (l.length : Int) (i : Int)) ?_
  obtain rfl : i = l.length := by omega
  simp only [L_queue.l0, show ¬ (l.length : Int) < (l.length : Int) by omega, if_false, hr, Option.bind_some]
  exact Ev.some
 | n + 1, i, h => by
  refine Ev.succ (f := fun k => L_queue.l0 k l ((List.range i).map (fun n : Nat => (n : Int))) (l.length : Int) (i : Int)) ?_
  have ih := queue_l0 l hl10 r hr n (i + 1) (by omega)
  rw [List.range_succ, List.map_append] at ih
  simp only [L_queue.l0, show (i : Int) < (l.length : Int) by omega, if_true, List.length_map, List.length_range, show i < 17592186044416 by omega, up (show i < 4611686018427387904 by omega)]
  exact ih
theorem queue_ok {l : List S42} (hs : NameSz l) {h : Int} (h0 : tsE l h = 0) : ∃ ord : List Nat, Ev (fun k => L_queue.f k l h) (ord.map (fun n : Nat => (n : Int)), 0) ∧ ord.Perm (List.range l.length) ∧ ord.Pairwise (lexL l) := by
 have hc : (chkT l).2 = 0 ∧ 1 ≤ h ∧ h ≤ 24 := by
  unfold tsE at h0
  by_cases h1 : (chkT l).2 = 0
  ·rw [if_pos h1] at h0
   by_cases h2 : 1 ≤ h ∧ h ≤ 24
   ·exact ⟨h1, h2⟩
   ·rw [if_neg h2] at h0; cases h0
  ·rw [if_neg h1] at h0; exact absurd h0 h1
 obtain ⟨hl10, hin⟩ := tasks_in hc.1
 have hmain : ∃ ord : List Nat, queueSort l ((List.range l.length).map (fun n : Nat => (n : Int))) = some (ord.map (fun n : Nat => (n : Int))) ∧ ord.Perm (List.range l.length) ∧ ord.Pairwise (lexL l) := by
  by_cases hn : l.length = 0
  ·refine ⟨[], ?_, by rw [hn]; simp, by simp⟩
   rw [hn]; rfl
  ·have hall : ∀ x ∈ (List.range l.length).map (fun n : Nat => (n : Int)), 0 ≤ x ∧ x < (l.length : Int) := by
    intro x hx
    obtain ⟨n, hn, rfl⟩ := List.mem_map.1 hx
    have := List.mem_range.1 hn
    omega
   obtain ⟨ord, e, h2, h3⟩ := sortIx_spec (l := l) (by omega) hin (ixsOf l _ hall) (ixs_val hall)
   refine ⟨ord, ?_, h2, h3⟩
   unfold queueSort
   rw [if_neg (fun e => hn (by have := congrArg List.length e; rw [List.length_map, List.length_range] at this; exact this)), dif_pos hall, dif_pos (show 0 < l.length by omega), if_pos (show ((List.range l.length).map (fun n : Nat => (n : Int))).length < 20 by simp; omega), e]
 obtain ⟨ord, e, h2, h3⟩ := hmain
 refine ⟨ord, ?_, h2, h3⟩
 unfold L_queue.f
 refine Ev.bind (CheckTasks_ev l hs) ?_
 simp only [within_eq, unless_eq, Option.bind_some, decide_eq_true_eq, hc.1, hc.2, and_self, if_true]
 refine Ev.bind (first_ev _ (by simp)) ?_
 simp only [fnz, if_true]
 have := queue_l0 l hl10 _ e l.length 0 (by omega)
 simpa using this
theorem queue_err {l : List S42} (hs : NameSz l) {h : Int} (h0 : tsE l h ≠ 0) : Ev (fun k => L_queue.f k l h) (([] : List Int), tsE l h) := by
 unfold L_queue.f
 refine Ev.bind (CheckTasks_ev l hs) ?_
 simp only [within_eq, unless_eq, Option.bind_some, decide_eq_true_eq]
 refine Ev.bind (first_ev _ (by simp)) ?_
 have key : fnz [(chkT l).2, if 1 ≤ h ∧ h ≤ 24 then 0 else 2] = tsE l h := by
  unfold tsE
  by_cases h1 : (chkT l).2 = 0
  ·by_cases h2 : 1 ≤ h ∧ h ≤ 24
   ·simp only [fnz, h1, h2, and_self, if_true]
   ·simp only [fnz, h1, h2, if_true, if_false, show ¬ (2 : Int) = 0 by decide]
  ·simp only [fnz, h1, if_false]
 rw [key]
 simp only [h0, if_false]
 exact Ev.some
def gs (f : Nat → Int) : List Nat → Int
 | [] => 0
 | x :: r => f x + gs f r
theorem gs_perm (f : Nat → Int) {a b : List Nat} (h : a.Perm b) : gs f a = gs f b := by
  induction h with
  | nil => rfl
  | cons x _ ih => simp only [gs, ih]
  | swap x y l => simp only [gs]; omega
  | trans _ _ ih1 ih2 => exact ih1.trans ih2
theorem gs_append (f : Nat → Int) : ∀ a b : List Nat, gs f (a ++ b) = gs f a + gs f b
 | [], b => by simp [gs]
 | x :: r, b => by simp only [List.cons_append, gs, gs_append f r b]; omega
theorem gs_congr {f g : Nat → Int} : ∀ l : List Nat, (∀ x ∈ l, f x = g x) → gs f l = gs g l
 | [], _ => rfl
 | x :: r, h => by simp only [gs, h x List.mem_cons_self, gs_congr r (fun y hy => h y (List.mem_cons_of_mem _ hy))]
def daysFrom (l : List S42) (h : Int) : List Nat → Int → List Int → List Int
 | [], _, o => o
 | i :: r, d, o => daysFrom l h r (d + hrs l i) (o.set i (cdiv (d + hrs l i) h))
def Good (l : List S42) (h : Int) : Prop := l.length ≤ 10 ∧ (∀ i : Nat, i < l.length → inT (rd_T42 l (i : Int))) ∧ 1 ≤ h ∧ h ≤ 24
theorem good_of {l : List S42} {h : Int} (h0 : tsE l h = 0) : Good l h := by
 unfold tsE at h0
 by_cases h1 : (chkT l).2 = 0
 ·rw [if_pos h1] at h0
  by_cases h2 : 1 ≤ h ∧ h ≤ 24
  ·exact ⟨(tasks_in h1).1, (tasks_in h1).2, h2⟩
  ·rw [if_neg h2] at h0; cases h0
 ·rw [if_neg h1] at h0; exact absurd h0 h1
theorem rd_ord {ord : List Nat} {p : Nat} : rd (ord.map fun n : Nat => (n : Int)) (p : Int) = ((ord.getD p 0 : Nat) : Int) := by
 rw [rd_nat]
 simp only [List.getD_eq_getElem?_getD, List.getElem?_map]
 cases ord[p]? <;> rfl
theorem getD_mem {ord : List Nat} {p : Nat} (h : p < ord.length) : ord.getD p 0 ∈ ord := by
 simp only [List.getD_eq_getElem?_getD, List.getElem?_eq_getElem h, Option.getD_some]
 exact List.getElem_mem h
theorem DaysOf_l0 {l : List S42} {h : Int} (hg : Good l h) (ord : List Nat) (ho : ∀ x ∈ ord, x < l.length) (hn : ord.length ≤ 10) : ∀ (m p : Nat) (out : List Int) (d : Int), p + m = ord.length → out.length = l.length → (0 ≤ d ∧ d ≤ 1000 * p) →
  Ev (fun k => L_DaysOf.l0 k l h out d (ord.map fun n : Nat => (n : Int)) (ord.length : Int) (p : Int)) (daysFrom l h (ord.drop p) d out, 0)
 | 0, p, out, d, hp, _, _ => by
  refine Ev.succ (f := fun k => L_DaysOf.l0 k l h out d (ord.map fun n : Nat => (n : Int)) (ord.length : Int) (p : Int)) ?_
  simp only [L_DaysOf.l0, show ¬ (p : Int) < (ord.length : Int) by omega, if_false]
  rw [show ord.drop p = [] from List.drop_eq_nil_of_le (by omega)]
  exact Ev.some
 | m + 1, p, out, d, hp, hout, hd => by
  refine Ev.succ (f := fun k => L_DaysOf.l0 k l h out d (ord.map fun n : Nat => (n : Int)) (ord.length : Int) (p : Int)) ?_
  have hpl : p < ord.length := by omega
  obtain ⟨x, hx0⟩ : ∃ x, x = ord.getD p 0 := ⟨_, rfl⟩
  have hx : x < l.length := by rw [hx0]; exact ho _ (getD_mem hpl)
  rw [drop_getD 0 hpl, ← hx0]
  have hin := (hg.2.1 _ hx).2
  have ih := DaysOf_l0 hg ord ho hn m (p + 1) (out.set x (cdiv (d + hrs l x) h)) (d + hrs l x) (by omega) (by simpa using hout) (by unfold hrs; omega)
  have hw : wrap64 (d + (rd_T42 l ((x : Nat) : Int)).f2) = d + hrs l x := w64 (by omega)
  have hh : -4611686018427387904 ≤ d + hrs l x ∧ d + hrs l x ≤ 4611686018427387904 := by unfold hrs; omega
  simp only [L_DaysOf.l0, show (p : Int) < (ord.length : Int) by omega, show (0 : Int) ≤ (p : Int) by omega, List.length_map, if_true, rd_ord, ← hx0, show (0 : Int) ≤ (x : Int) by omega, show (x : Int) < (l.length : Int) by omega, hw, ceil_eq (show 0 < h by have := hg.2.2; omega) hh, Option.bind_some, hout, Int.toNat_natCast, up (show p < 4611686018427387904 by omega), daysFrom]
  exact ih
/-- The hours of all tasks of a list up to one of them. -/
def sumTo (l : List S42) (j : Nat) : List Nat → Int
 | [] => 0
 | i :: r => hrs l i + if i = j then 0 else sumTo l j r
theorem daysFrom_get (l : List S42) (h : Int) : ∀ (post : List Nat) (d : Int) (o : List Int), post.Nodup → (∀ i ∈ post, i < o.length) → ∀ j : Nat, (daysFrom l h post d o)[j]? = if j ∈ post then some (cdiv (d + sumTo l j post) h) else o[j]?
 | [], d, o, _, _, j => by simp [daysFrom]
 | i :: r, d, o, hn, hi, j => by
  have hn' := List.nodup_cons.1 hn
  have ih := daysFrom_get l h r (d + hrs l i) (o.set i (cdiv (d + hrs l i) h)) hn'.2 (fun x hx => by rw [List.length_set]; exact hi x (List.mem_cons_of_mem _ hx)) j
  unfold daysFrom
  rw [ih]
  by_cases e : i = j
  ·subst e
   simp only [hn'.1, if_false, List.mem_cons, true_or, if_true, sumTo]
   rw [List.getElem?_set_self (hi i List.mem_cons_self)]
   simp
  ·have e' : ¬ j = i := fun h => e h.symm
   simp only [List.mem_cons, e', false_or, sumTo, e, if_false]
   by_cases hj : j ∈ r
   ·simp only [hj, if_true]
    rw [show d + hrs l i + sumTo l j r = d + (hrs l i + sumTo l j r) by omega]
   ·simp only [hj, if_false]
    rw [List.getElem?_set_ne e]
/-- The hours of all tasks that are not after one, and its own. -/
def SL (l : List S42) (j : Nat) : Int := gs (fun k => if lexL l k j ∨ k = j then hrs l k else 0) (List.range l.length)
theorem lexL_irrefl (l : List S42) (x : Nat) : ¬ lexL l x x := by unfold lexL; omega
theorem lexL_asymm {l : List S42} {x y : Nat} (h : lexL l x y) : ¬ lexL l y x := by unfold lexL at *; omega
theorem gs_zero {f : Nat → Int} : ∀ l : List Nat, (∀ x ∈ l, f x = 0) → gs f l = 0
 | [], _ => rfl
 | x :: r, h => by simp only [gs, h x List.mem_cons_self, gs_zero r (fun y hy => h y (List.mem_cons_of_mem _ hy))]; rfl
theorem sumTo_eq (l : List S42) (j : Nat) : ∀ ord : List Nat, ord.Pairwise (lexL l) → j ∈ ord → gs (fun k => if lexL l k j ∨ k = j then hrs l k else 0) ord = sumTo l j ord
 | [], _, h => by cases h
 | i :: r, hp, h => by
  have hp' := List.pairwise_cons.1 hp
  simp only [gs, sumTo]
  by_cases e : i = j
  ·subst e
   rw [gs_zero r (fun x hx => by
    have h1 := hp'.1 x hx
    have h2 := lexL_asymm h1
    have h3 : ¬ x = i := fun e => by subst e; exact lexL_irrefl l x h1
    simp only [h2, h3, or_self, if_false])]
   simp
  ·have hj : j ∈ r := by
    rcases List.mem_cons.1 h with h | h
    ·exact absurd h.symm e
    ·exact h
   have h1 := hp'.1 j hj
   rw [sumTo_eq l j r hp'.2 hj]
   simp only [h1, true_or, if_true, e, if_false]
/-- The day of a task. -/
def dayOf (l : List S42) (h : Int) (j : Nat) : Int := cdiv (SL l j) h
theorem DaysOf_ok {l : List S42} (hs : NameSz l) {h : Int} (h0 : tsE l h = 0) : Ev (fun k => L_DaysOf.f k l h) ((List.range l.length).map (dayOf l h), 0) := by
 have hg := good_of h0
 obtain ⟨ord, hq, hp, hw⟩ := queue_ok hs h0
 have hlen : ord.length = l.length := by have := hp.length_eq; simpa using this
 have hmem : ∀ x ∈ ord, x < l.length := fun x hx => List.mem_range.1 (hp.mem_iff.1 hx)
 unfold L_DaysOf.f
 refine Ev.bind hq ?_
 have h10 := hg.1
 simp only [if_true, show (0 : Int) ≤ (l.length : Int) by omega, Int.toNat_natCast, show l.length ≤ 35184372088832 by omega, List.length_map]
 have := DaysOf_l0 hg ord hmem (by omega) ord.length 0 (List.replicate l.length 0) 0 (by omega) (by simp) (by omega)
 refine cast ?_ this
 congr 1
 congr 1
 apply List.ext_getElem?
 intro j
 rw [List.drop_zero, daysFrom_get l h ord 0 _ (hp.nodup_iff.2 List.nodup_range) (fun i hi => by simpa using hmem i hi)]
 by_cases hj : j < l.length
 ·have hjo : j ∈ ord := hp.mem_iff.2 (List.mem_range.2 hj)
  rw [if_pos hjo, List.getElem?_map, List.getElem?_range hj]
  simp only [Option.map_some, dayOf, SL]
  rw [← gs_perm _ hp, sumTo_eq l j ord hw hjo, Int.zero_add]
 ·have hjo : ¬ j ∈ ord := fun hc => hj (hmem j hc)
  rw [if_neg hjo, List.getElem?_eq_none (by simp; omega), List.getElem?_eq_none (by simp; omega)]
theorem DaysOf_err {l : List S42} (hs : NameSz l) {h : Int} (h0 : tsE l h ≠ 0) : Ev (fun k => L_DaysOf.f k l h) (([] : List Int), tsE l h) := by
 unfold L_DaysOf.f
 refine Ev.bind (queue_err hs h0) ?_
 simp only [h0, if_false]
 exact Ev.some

theorem Days_l1 {l : List S42} {h : Int} (hg : Good l h) (acc : List Int) (i : Nat) (hi : i < l.length) (ha : acc.length ≤ 10) (r : List Int) (hr : Ev (fun k => Rf_Days.l0 k l h (acc ++ [dayOf l h i]) ((i + 1 : Nat) : Int)) r) :
  ∀ (m j : Nat) (s : Int), j + m = l.length → (0 ≤ s ∧ s ≤ 1000 * j) → s + gs (fun k => if lexL l k i ∨ k = i then hrs l k else 0) (List.range' j m) = SL l i → Ev (fun k => Rf_Days.l1 k l h acc (i : Int) s (j : Int)) r
 | 0, j, s, hj, hs, he => by
  refine Ev.succ (f := fun k => Rf_Days.l1 k l h acc (i : Int) s (j : Int)) ?_
  have h10 := hg.1
  simp only [List.range'_zero, gs, Int.add_zero] at he
  simp only [Rf_Days.l1, show ¬ (j : Int) < (l.length : Int) by omega, if_false, Ceil_eq (show 0 < h by have := hg.2.2; omega) (show -4611686018427387904 ≤ s ∧ s ≤ 4611686018427387904 by omega), Option.bind_some, show acc.length < 17592186044416 by omega, if_true, up (show i < 4611686018427387904 by omega)]
  rw [show cdiv s h = dayOf l h i by unfold dayOf; rw [he]]
  exact hr
 | m + 1, j, s, hj, hs, he => by
  refine Ev.succ (f := fun k => Rf_Days.l1 k l h acc (i : Int) s (j : Int)) ?_
  have h10 := hg.1
  have hin := (hg.2.1 j (by omega)).2
  have hw : wrap64 (s + (rd_T42 l ((j : Nat) : Int)).f2) = s + hrs l j := w64 (by omega)
  rw [List.range'_succ] at he
  simp only [gs] at he
  have ihT := fun hT : (lexL l j i ∨ j = i) => Days_l1 hg acc i hi ha r hr m (j + 1) (s + hrs l j) (by omega) (by unfold hrs; omega) (by rw [if_pos hT] at he; omega)
  have ihF := fun hF : ¬ (lexL l j i ∨ j = i) => Days_l1 hg acc i hi ha r hr m (j + 1) s (by omega) (by omega) (by rw [if_neg hF] at he; omega)
  simp only [Rf_Days.l1, show (j : Int) < (l.length : Int) by omega, show (0 : Int) ≤ (j : Int) by omega, show (0 : Int) ≤ (i : Int) by omega, show (i : Int) < (l.length : Int) by omega, if_true, hw, up (show j < 4611686018427387904 by omega)]
  unfold lexL due at ihT ihF
  by_cases c1 : (rd_T42 l (j : Int)).f1 < (rd_T42 l (i : Int)).f1
  ·simp only [c1, if_true]; exact ihT (.inl (.inl c1))
  ·by_cases c2 : (rd_T42 l (j : Int)).f1 = (rd_T42 l (i : Int)).f1
   ·by_cases c3 : j ≤ i
    ·simp only [c1, c2, if_true, if_false, show (j : Int) ≤ (i : Int) by omega, show ¬ (rd_T42 l (i : Int)).f1 < (rd_T42 l (i : Int)).f1 by omega]
     exact ihT (by omega)
    ·simp only [c1, c2, if_true, if_false, show ¬ (j : Int) ≤ (i : Int) by omega, show ¬ (rd_T42 l (i : Int)).f1 < (rd_T42 l (i : Int)).f1 by omega]
     exact ihF (by omega)
   ·simp only [c1, c2, if_false]; exact ihF (fun hq => hq.elim (fun h2 => h2.elim c1 (fun h3 => c2 h3.1)) (fun h2 => c2 (by rw [h2])))
theorem Days_l0 {l : List S42} {h : Int} (hg : Good l h) : ∀ (m i : Nat), i + m = l.length → Ev (fun k => Rf_Days.l0 k l h ((List.range i).map (dayOf l h)) (i : Int)) ((List.range l.length).map (dayOf l h))
 | 0, i, hi => by
  refine Ev.succ (f := fun k => Rf_Days.l0 k l h ((List.range i).map (dayOf l h)) (i : Int)) ?_
  obtain rfl : i = l.length := by omega
  simp only [Rf_Days.l0, show ¬ (l.length : Int) < (l.length : Int) by omega, if_false]
  exact Ev.some
 | m + 1, i, hi => by
  refine Ev.succ (f := fun k => Rf_Days.l0 k l h ((List.range i).map (dayOf l h)) (i : Int)) ?_
  have ih := Days_l0 hg m (i + 1) (by omega)
  rw [List.range_succ, List.map_append] at ih
  simp only [Rf_Days.l0, show (i : Int) < (l.length : Int) by omega, if_true]
  have h10 := hg.1
  refine Days_l1 hg _ i (by omega) (by simp; omega) _ ih l.length 0 0 (by omega) (by omega) ?_
  rw [Int.zero_add, ← List.range_eq_range']; rfl
theorem Days_ev {l : List S42} {h : Int} (hg : Good l h) : Ev (fun k => Rf_Days.f k l h) ((List.range l.length).map (dayOf l h)) := by
 have := Days_l0 hg l.length 0 (by omega)
 simpa [Rf_Days.f] using this
/-- The hours of all tasks that are due up to a day. -/
def SD (l : List S42) (d : Int) : Int := gs (fun k => if due l k ≤ d then hrs l k else 0) (List.range l.length)
theorem due_in {l : List S42} {h : Int} (hg : Good l h) {i : Nat} (hi : i < l.length) : (0 ≤ due l i ∧ due l i ≤ 1000) ∧ (0 ≤ hrs l i ∧ hrs l i ≤ 1000) := hg.2.1 i hi
def lastB (l : List S42) (i : Nat) : List Nat → Bool
 | [] => true
 | j :: _ => decide (due l j > due l i)
def lackFrom (l : List S42) (h : Int) : List Nat → Int → Option (Int × Int)
 | [], _ => none
 | i :: r, d => if lastB l i r = true ∧ d + hrs l i - due l i * h > 0 then some (due l i, d + hrs l i - due l i * h) else lackFrom l h r (d + hrs l i)
def lackR : Option (Int × Int) → Int × Int × Int
 | none => (0, 0, 12)
 | some (a, b) => (a, b, 0)
theorem mulH {a h : Int} (ha : 0 ≤ a ∧ a ≤ 1000) (hh : 1 ≤ h ∧ h ≤ 24) : 0 ≤ a * h ∧ a * h ≤ 24000 := by
 have h1 : a * h ≤ 1000 * h := Int.mul_le_mul_of_nonneg_right ha.2 (by omega)
 have h2 : 0 ≤ a * h := Int.mul_nonneg ha.1 (by omega)
 omega
theorem LackOf_l0 {l : List S42} {h : Int} (hg : Good l h) (ord : List Nat) (ho : ∀ x ∈ ord, x < l.length) (hn : ord.length ≤ 10) : ∀ (m p : Nat) (d : Int), p + m = ord.length → (0 ≤ d ∧ d ≤ 1000 * p) →
  Ev (fun k => L_LackOf.l0 k l h (ord.map fun n : Nat => (n : Int)) d (ord.map fun n : Nat => (n : Int)) (ord.length : Int) (p : Int)) (lackR (lackFrom l h (ord.drop p) d))
 | 0, p, d, hp, _ => by
  refine Ev.succ (f := fun k => L_LackOf.l0 k l h (ord.map fun n : Nat => (n : Int)) d (ord.map fun n : Nat => (n : Int)) (ord.length : Int) (p : Int)) ?_
  simp only [L_LackOf.l0, show ¬ (p : Int) < (ord.length : Int) by omega, if_false]
  rw [show ord.drop p = [] from List.drop_eq_nil_of_le (by omega)]
  exact Ev.some
 | m + 1, p, d, hp, hd => by
  refine Ev.succ (f := fun k => L_LackOf.l0 k l h (ord.map fun n : Nat => (n : Int)) d (ord.map fun n : Nat => (n : Int)) (ord.length : Int) (p : Int)) ?_
  have hpl : p < ord.length := by omega
  obtain ⟨x, hx0⟩ : ∃ x, x = ord.getD p 0 := ⟨_, rfl⟩
  have hx : x < l.length := by rw [hx0]; exact ho _ (getD_mem hpl)
  rw [drop_getD 0 hpl, ← hx0]
  have hin := hg.2.1 _ hx
  have ih := LackOf_l0 hg ord ho hn m (p + 1) (d + hrs l x) (by omega) (by unfold hrs; have := hin.2; omega)
  have hw : wrap64 (d + (rd_T42 l ((x : Nat) : Int)).f2) = d + hrs l x := w64 (by have := hin.2; omega)
  have hm := mulH hin.1 hg.2.2
  have hw2 : wrap64 ((rd_T42 l ((x : Nat) : Int)).f1 * h) = due l x * h := w64 (by omega)
  have hm' : 0 ≤ due l x * h ∧ due l x * h ≤ 24000 := hm
  have hw3 : wrap64 (d + hrs l x - due l x * h) = d + hrs l x - due l x * h := w64 (by unfold hrs; have := hin.2; omega)
  simp only [L_LackOf.l0, show (p : Int) < (ord.length : Int) by omega, show (0 : Int) ≤ (p : Int) by omega, List.length_map, if_true, rd_ord, ← hx0, show (0 : Int) ≤ (x : Int) by omega, show (x : Int) < (l.length : Int) by omega, hw, hw2, hw3, up (show p < 4611686018427387904 by omega), lackFrom]
  by_cases hlast : p + 1 = ord.length
  ·have hnil : ord.drop (p + 1) = [] := List.drop_eq_nil_of_le (by omega)
   rw [hnil] at ih ⊢
   simp only [show ((p + 1 : Nat) : Int) = (ord.length : Int) by omega, if_true, lastB, true_and]
   by_cases hc : d + hrs l x - due l x * h > 0
   ·simp only [hc, if_true, lackR]; exact Ev.some
   ·simp only [hc, if_false]
    rw [show ((p + 1 : Nat) : Int) = (ord.length : Int) by omega] at ih
    exact ih
  ·have hpl2 : p + 1 < ord.length := by omega
   obtain ⟨y, hy0⟩ : ∃ y, y = ord.getD (p + 1) 0 := ⟨_, rfl⟩
   have hy : y < l.length := by rw [hy0]; exact ho _ (getD_mem hpl2)
   have hry : rd (ord.map fun n : Nat => (n : Int)) ((p + 1 : Nat) : Int) = (y : Int) := by rw [rd_ord, ← hy0]
   rw [drop_getD 0 hpl2, ← hy0] at ih ⊢
   simp only [show ¬ ((p + 1 : Nat) : Int) = (ord.length : Int) by omega, show (0 : Int) ≤ ((p + 1 : Nat) : Int) by omega, show ((p + 1 : Nat) : Int) < (ord.length : Int) by omega, if_true, if_false, hry, show (0 : Int) ≤ (y : Int) by omega, show (y : Int) < (l.length : Int) by omega, lastB, decide_eq_true_eq]
   by_cases c : (rd_T42 l (y : Int)).f1 > (rd_T42 l (x : Int)).f1
   ·have c' : due l y > due l x := c
    simp only [c, c', if_true, true_and]
    by_cases hc : d + hrs l x - due l x * h > 0
    ·simp only [hc, if_true, lackR]; exact Ev.some
    ·simp only [hc, if_false]; exact ih
   ·have c' : ¬ due l y > due l x := c
    simp only [c, c', if_false, false_and]; exact ih
/-- What the search through the order finds. -/
theorem lack_spec {l : List S42} {h : Int} (ord : List Nat) (hp : ord.Perm (List.range l.length)) (hw : ord.Pairwise (lexL l)) : ∀ (post pre : List Nat), ord = pre ++ post →
    (∀ D L, lackFrom l h post (gs (hrs l) pre) = some (D, L) → (∃ x ∈ post, due l x = D) ∧ L = SD l D - D * h ∧ L > 0 ∧ ∀ y ∈ post, due l y < D → SD l (due l y) ≤ due l y * h) ∧
    (lackFrom l h post (gs (hrs l) pre) = none → ∀ y ∈ post, SD l (due l y) ≤ due l y * h)
  | [], pre, _ => ⟨fun D L hc => by simp [lackFrom] at hc, fun _ y hy => by cases hy⟩
  | i :: r, pre, e => by
    have hg1 : gs (hrs l) (pre ++ [i]) = gs (hrs l) pre + hrs l i := by rw [gs_append]; simp [gs]
    obtain ⟨ih1, ih2⟩ := lack_spec (h := h) ord hp hw r (pre ++ [i]) (by rw [e]; simp)
    rw [hg1] at ih1 ih2
    have hw' := hw
    rw [e, List.pairwise_append] at hw'
    obtain ⟨w1, w2, w3⟩ := hw'
    have w2' := List.pairwise_cons.1 w2
    have hle : ∀ y ∈ r, due l i ≤ due l y := fun y hy => by have := w2'.1 y hy; unfold lexL at this; omega
    have hpre : ∀ y ∈ pre, due l y ≤ due l i := fun y hy => by have := w3 y hy i List.mem_cons_self; unfold lexL at this; omega
    have hSD : lastB l i r = true → SD l (due l i) = gs (hrs l) pre + hrs l i := by
      intro hb
      have hgt : ∀ y ∈ r, due l i < due l y := by
        intro y hy
        cases r with
        | nil => cases hy
        | cons j r' =>
          have h1 : due l j > due l i := by simpa [lastB] using hb
          rcases List.mem_cons.1 hy with rfl | hy
          · exact h1
          · have := (List.pairwise_cons.1 w2'.2).1 y hy
            unfold lexL at this; omega
      unfold SD
      rw [← gs_perm _ hp, e, gs_append]
      rw [gs_congr (g := hrs l) pre (fun x hx => if_pos (hpre x hx))]
      simp only [gs, Int.le_refl, if_true]
      rw [gs_zero r (fun x hx => if_neg (by have := hgt x hx; omega))]
      omega
    have hnb : lastB l i r = false → ∃ j ∈ r, due l j = due l i := by
      intro hb
      cases r with
      | nil => cases hb
      | cons j r' =>
        have h1 : ¬ due l j > due l i := by simpa [lastB] using hb
        have h2 := hle j List.mem_cons_self
        exact ⟨j, List.mem_cons_self, by omega⟩
    unfold lackFrom
    by_cases hc : lastB l i r = true ∧ gs (hrs l) pre + hrs l i - due l i * h > 0
    · rw [if_pos hc]
      have hs := hSD hc.1
      refine ⟨fun D L hq => ?_, fun hq => by cases hq⟩
      simp only [Option.some.injEq, Prod.mk.injEq] at hq
      obtain ⟨rfl, rfl⟩ := hq
      refine ⟨⟨i, List.mem_cons_self, rfl⟩, by rw [hs], hc.2, fun y hy hlt => ?_⟩
      rcases List.mem_cons.1 hy with rfl | hy
      · omega
      · have := hle y hy; omega
    · rw [if_neg hc]
      have hi : (∀ y ∈ r, due l y = due l i → SD l (due l y) ≤ due l y * h) → SD l (due l i) ≤ due l i * h := by
        intro hr
        cases hb : lastB l i r with
        | true => have hs := hSD hb; have : ¬ (gs (hrs l) pre + hrs l i - due l i * h > 0) := fun h => hc ⟨hb, h⟩; omega
        | false =>
          obtain ⟨j, hj, ej⟩ := hnb hb
          have := hr j hj ej
          rw [ej] at this; exact this
      refine ⟨fun D L hq => ?_, fun hq y hy => ?_⟩
      · obtain ⟨⟨x, hx, ex⟩, hL, h0, hy⟩ := ih1 D L hq
        refine ⟨⟨x, List.mem_cons_of_mem _ hx, ex⟩, hL, h0, fun y hy' hlt => ?_⟩
        rcases List.mem_cons.1 hy' with rfl | hy'
        · exact hi (fun z hz ez => hy z hz (by omega))
        · exact hy y hy' hlt
      · rcases List.mem_cons.1 hy with rfl | hy
        · exact hi (fun z hz _ => ih2 hq z hz)
        · exact ih2 hq y hy
/-- Where no task's own day has a lack, no day has one. -/
theorem no_lack {l : List S42} {h : Int} (hg : Good l h) : ∀ d : Nat, (∀ y, y < l.length → due l y ≤ (d : Int) → SD l (due l y) ≤ due l y * h) → SD l (d : Int) ≤ (d : Int) * h := by
 intro d
 induction d with
 | zero =>
  intro hy
  by_cases he : ∃ y, y < l.length ∧ due l y = 0
  ·obtain ⟨y, h1, h2⟩ := he
   have := hy y h1 (by omega)
   rw [h2] at this; exact this
  ·have : SD l ((0 : Nat) : Int) = 0 := gs_zero _ (fun x hx => if_neg (fun hc => he ⟨x, List.mem_range.1 hx, by have := (due_in hg (List.mem_range.1 hx)).1; omega⟩))
   rw [this]; simp
 | succ d ih =>
  intro hy
  by_cases he : ∃ y, y < l.length ∧ due l y = ((d + 1 : Nat) : Int)
  ·obtain ⟨y, h1, h2⟩ := he
   have := hy y h1 (by omega)
   rw [h2] at this; exact this
  ·have : SD l ((d + 1 : Nat) : Int) = SD l (d : Int) := gs_congr _ (fun x hx => by
    have h1 : ¬ due l x = ((d + 1 : Nat) : Int) := fun hc => he ⟨x, List.mem_range.1 hx, hc⟩
    by_cases h2 : due l x ≤ (d : Int)
    ·rw [if_pos h2, if_pos (by omega)]
    ·rw [if_neg h2, if_neg (by omega)])
   rw [this]
   have h1 := ih (fun y hy1 hy2 => hy y hy1 (by omega))
   have h2 : ((d + 1 : Nat) : Int) * h = (d : Int) * h + h := by push_cast; rw [Int.add_mul, Int.one_mul]
   have := hg.2.2
   omega
/-- The first lack, told without a program. -/
def FirstLack (l : List S42) (h : Int) : Option (Int × Int) → Prop
 | none => ∀ d : Int, 0 ≤ d → SD l d ≤ d * h
 | some (D, L) => (0 ≤ D ∧ D ≤ 1000) ∧ L = SD l D - D * h ∧ L > 0 ∧ (∃ x, x < l.length ∧ due l x = D) ∧ ∀ d : Int, 0 ≤ d → d < D → SD l d ≤ d * h
theorem LackOf_ok {l : List S42} (hs : NameSz l) {h : Int} (h0 : tsE l h = 0) : ∃ o, FirstLack l h o ∧ Ev (fun k => L_LackOf.f k l h) (lackR o) := by
 have hg := good_of h0
 obtain ⟨ord, hq, hp, hw⟩ := queue_ok hs h0
 have hlen : ord.length = l.length := by have := hp.length_eq; simpa using this
 have hmem : ∀ x ∈ ord, x < l.length := fun x hx => List.mem_range.1 (hp.mem_iff.1 hx)
 have h10 := hg.1
 refine ⟨lackFrom l h ord 0, ?_, ?_⟩
 ·obtain ⟨s1, s2⟩ := lack_spec (h := h) ord hp hw ord [] rfl
  simp only [gs] at s1 s2
  cases hc : lackFrom l h ord 0 with
  | none =>
   have := s2 hc
   intro d hd
   have h1 := no_lack hg d.toNat (fun y hy _ => this y (hp.mem_iff.2 (List.mem_range.2 hy)))
   rw [Int.toNat_of_nonneg hd] at h1; exact h1
  | some q =>
   obtain ⟨D, L⟩ := q
   obtain ⟨⟨x, hx, ex⟩, hL, hpos, hy⟩ := s1 D L hc
   have hxl := hmem x hx
   refine ⟨by rw [← ex]; exact (due_in hg hxl).1, hL, hpos, ⟨x, hxl, ex⟩, fun d hd hlt => ?_⟩
   have h1 := no_lack hg d.toNat (fun y hyl hyd => hy y (hp.mem_iff.2 (List.mem_range.2 hyl)) (by omega))
   rw [Int.toNat_of_nonneg hd] at h1; exact h1
 ·unfold L_LackOf.f
  refine Ev.bind hq ?_
  simp only [if_true, List.length_map]
  have := LackOf_l0 hg ord hmem (by omega) ord.length 0 0 (by omega) (by omega)
  simpa using this
theorem LackOf_err {l : List S42} (hs : NameSz l) {h : Int} (h0 : tsE l h ≠ 0) : Ev (fun k => L_LackOf.f k l h) (0, 0, tsE l h) := by
 unfold L_LackOf.f
 refine Ev.bind (queue_err hs h0) ?_
 simp only [h0, if_false]
 exact Ev.some

theorem Lack_l1 {l : List S42} {h : Int} (hg : Good l h) (d : Nat) (hd : d ≤ 1000) (r : Int × Int × Bool) (hr : SD l (d : Int) ≤ (d : Int) * h → Ev (fun k => Rf_Lack.l0 k l h ((d + 1 : Nat) : Int)) r) (hr2 : ¬ SD l (d : Int) ≤ (d : Int) * h → r = ((d : Int), SD l (d : Int) - (d : Int) * h, true)) :
  ∀ (m j : Nat) (s : Int), j + m = l.length → (0 ≤ s ∧ s ≤ 1000 * j) → s + gs (fun k => if due l k ≤ (d : Int) then hrs l k else 0) (List.range' j m) = SD l (d : Int) → Ev (fun k => Rf_Lack.l1 k l h (d : Int) s (j : Int)) r
 | 0, j, s, hj, hs, he => by
  refine Ev.succ (f := fun k => Rf_Lack.l1 k l h (d : Int) s (j : Int)) ?_
  simp only [List.range'_zero, gs, Int.add_zero] at he
  have hm := mulH (a := (d : Int)) (by omega) hg.2.2
  have h10 := hg.1
  simp only [Rf_Lack.l1, show ¬ (j : Int) < (l.length : Int) by omega, if_false, w64 (n := (d : Int) * h) (by omega), up (show d < 4611686018427387904 by omega)]
  by_cases c : s > (d : Int) * h
  ·simp only [c, if_true, w64 (n := s - (d : Int) * h) (by omega)]
   rw [hr2 (by omega), he]
   exact Ev.some
  ·simp only [c, if_false]
   exact hr (by omega)
 | m + 1, j, s, hj, hs, he => by
  refine Ev.succ (f := fun k => Rf_Lack.l1 k l h (d : Int) s (j : Int)) ?_
  have h10 := hg.1
  have hin := (hg.2.1 j (by omega)).2
  have hw : wrap64 (s + (rd_T42 l ((j : Nat) : Int)).f2) = s + hrs l j := w64 (by omega)
  rw [List.range'_succ] at he
  simp only [gs] at he
  simp only [Rf_Lack.l1, show (j : Int) < (l.length : Int) by omega, show (0 : Int) ≤ (j : Int) by omega, if_true, hw, up (show j < 4611686018427387904 by omega)]
  by_cases c : (rd_T42 l (j : Int)).f1 ≤ (d : Int)
  ·have c' : due l j ≤ (d : Int) := c
   rw [if_pos c'] at he
   simp only [c, if_true]
   exact Lack_l1 hg d hd r hr hr2 m (j + 1) (s + hrs l j) (by omega) (by unfold hrs; omega) (by omega)
  ·have c' : ¬ due l j ≤ (d : Int) := c
   rw [if_neg c'] at he
   simp only [c, if_false]
   exact Lack_l1 hg d hd r hr hr2 m (j + 1) s (by omega) (by omega) (by omega)
def lackB : Option (Int × Int) → Int × Int × Bool
 | none => (0, 0, false)
 | some (a, b) => (a, b, true)
theorem Lack_l0 {l : List S42} {h : Int} (hg : Good l h) {o : Option (Int × Int)} (ho : FirstLack l h o) : ∀ (m d : Nat), d + m = 1001 → (∀ D L, o = some (D, L) → (d : Int) ≤ D) → Ev (fun k => Rf_Lack.l0 k l h (d : Int)) (lackB o)
  | 0, d, hd, hD => by
    refine Ev.succ (f := fun k => Rf_Lack.l0 k l h (d : Int)) ?_
    simp only [Rf_Lack.l0, show ¬ (d : Int) ≤ 1000 by omega, if_false]
    cases o with
    | none => exact Ev.some
    | some q => obtain ⟨D, L⟩ := q; have := hD D L rfl; have := ho.1; omega
  | m + 1, d, hd, hD => by
    refine Ev.succ (f := fun k => Rf_Lack.l0 k l h (d : Int)) ?_
    simp only [Rf_Lack.l0, show (d : Int) ≤ 1000 by omega, if_true]
    refine Lack_l1 hg d (by omega) (lackB o) (fun hc => Lack_l0 hg ho m (d + 1) (by omega) (fun D L e => ?_)) (fun hc => ?_) l.length 0 0 (by omega) (by omega) ?_
    · have h1 := hD D L e
      subst e
      obtain ⟨_, hL, hpos, _, _⟩ := ho
      by_cases e2 : D = (d : Int)
      · rw [e2] at hL; omega
      · omega
    · cases o with
      | none => exact absurd (ho (d : Int) (by omega)) hc
      | some q =>
        obtain ⟨D, L⟩ := q
        have h1 := hD D L rfl
        have hlt : ¬ (d : Int) < D := fun hlt => hc (ho.2.2.2.2 (d : Int) (by omega) hlt)
        have e2 : D = (d : Int) := by omega
        subst e2
        simp only [lackB, ho.2.1]
    · rw [Int.zero_add, ← List.range_eq_range']; rfl
theorem Lack_ev {l : List S42} {h : Int} (hg : Good l h) {o : Option (Int × Int)} (ho : FirstLack l h o) : Ev (fun k => Rf_Lack.f k l h) (lackB o) := by
 have := Lack_l0 hg ho 1001 0 (by omega) (fun D L e => by subst e; have := ho.1; omega)
 simpa [Rf_Lack.f] using this

theorem Ints_l0 (l : List Int) (hl : l.length < 4611686018427387904) : ∀ (n i : Nat), i + n = l.length → Ev (fun k => Bs_Ints.l0 k l l (i : Int)) true
 | 0, i, h => by
  refine Ev.succ (f := fun k => Bs_Ints.l0 k l l (i : Int)) ?_
  simp only [Bs_Ints.l0, show ¬ (i : Int) < (l.length : Int) by omega, if_false]
  exact Ev.some
 | n + 1, i, h => by
  refine Ev.succ (f := fun k => Bs_Ints.l0 k l l (i : Int)) ?_
  simp only [Bs_Ints.l0, show (i : Int) < (l.length : Int) by omega, show (0 : Int) ≤ (i : Int) by omega, if_true, up (show i < 4611686018427387904 by omega)]
  exact Ints_l0 l hl n (i + 1) (by omega)
theorem Ints_ev (l : List Int) (hl : l.length < 4611686018427387904) : Ev (fun k => Bs_Ints.f k l l) true := by
 unfold Bs_Ints.f
 simp only [if_true]
 exact Ints_l0 l hl l.length 0 (by omega)
theorem awake_ev : Ev (fun k => Lw_awake.f k) true :=
 Ev.of_mono (k := 1500) (fun k => Lw_awake.mono k) (by kernel_rfl)
theorem TargetTasks_ev (l : List S42) (hs : NameSz l) (h : Int) : Ev (fun k => Lw_TargetTasks.f k l h) true := by
  unfold Lw_TargetTasks.f
  refine Ev.bind awake_ev ?_
  simp only [if_true]
  by_cases hl : (l.length : Int) > 12
  · simp only [hl, if_true]; exact Ev.some
  · simp only [hl, if_false, CopyTasks_eq l (by omega), Option.bind_some]
    refine Ev.bind (CheckTasks_ev l hs) ?_
    by_cases h0 : tsE l h = 0
    · obtain ⟨o, ho, hE⟩ := LackOf_ok hs h0
      refine Ev.bind (DaysOf_ok hs h0) ?_
      refine Ev.bind hE ?_
      refine Ev.bind (RefTasks_ev l) ?_
      simp only [if_true]
      rw [show (((chkT l).1 != (chkT l).1) = false) by simp]
      refine Ev.succ (f := fun k => Lw_TargetTasks.j0 k l h _ _ _ _ _ false) ?_
      simp only [Lw_TargetTasks.j0, Bool.false_eq_true, if_false]
      refine Ev.bind (TasksErr_ev l h) ?_
      simp only [h0, if_true]
      refine Ev.bind (Days_ev (good_of h0)) ?_
      refine Ev.bind (Ints_ev _ (by simp; omega)) ?_
      simp only [if_true]
      refine Ev.bind (Lack_ev (good_of h0) ho) ?_
      cases o with
      | none => simp only [lackB, lackR, Bool.false_eq_true, if_false, if_true, beq_self_eq_true]; exact Ev.some
      | some q => obtain ⟨a, b⟩ := q; simp only [lackB, lackR, if_true, beq_self_eq_true]; exact Ev.some
    · refine Ev.bind (DaysOf_err hs h0) ?_
      refine Ev.bind (LackOf_err hs h0) ?_
      refine Ev.bind (RefTasks_ev l) ?_
      simp only [if_true]
      rw [show (((chkT l).1 != (chkT l).1) = false) by simp]
      refine Ev.succ (f := fun k => Lw_TargetTasks.j0 k l h _ _ _ _ _ false) ?_
      simp only [Lw_TargetTasks.j0, Bool.false_eq_true, if_false]
      refine Ev.bind (TasksErr_ev l h) ?_
      simp only [h0, if_false, if_true, List.length_nil, show (((0 : Nat) : Int) = 0) by rfl, beq_self_eq_true]
      exact Ev.some
theorem TargetTasks_pure (l : List S42) (hl : l.length ≤ maxLen ∧ ∀ x ∈ l, x.f0.size ≤ maxLen ∧ (Lit.int .i64 x.f1).wf = true ∧ (Lit.int .i64 x.f2).wf = true) (h : Int) (_ : (Lit.int .i64 h).wf = true) :
  ∃ k, Lw_TargetTasks.f k l h = some true := (TargetTasks_ev l (fun t ht => Nat.le_trans (hl.2 t ht).1 (by decide)) h).ex
end Go.Proofs.Ytibhfahbabgbaaa.P
