/-
PLAIN LAW: what the walks compute answers as the statement says (no program in sight; Ev: from some number of rounds on).
-/
import Derived.Test.YtibhfahbabgbaaaB05
import Derived.Test.YtibhfahbabgbaaaTS01
import Derived.Test.YtibhfahbabgbaaaTS04
import Derived.Test.YtibhfahbabgbaaaB16
import Derived.Test.YtibhfahbabgbaaaTS03
import Derived.Test.YtibhfahbabgbaaaB15
import Derived.Test.YtibhfahbabgbaaaB12
import Derived.Test.YtibhfahbabgbaaaB14
import Derived.Test.YtibhfahbabgbaaaB13
namespace Go.Proofs.Ytibhfahbabgbaaa.P
open Go Go.RowKit Go.Proofs.Ytibhfahbabgbaaa.A Go.Proofs.YtibhfahbabgbaaaW.PrintWords Go.Proofs.YtibhfahbabgbaaaW.PrintLast Go.Proofs.YtibhfahbabgbaaaW.PrintMore
set_option linter.unusedSimpArgs false
set_option linter.unusedVariables false
/-- From some number of rounds on, f says r. -/
def Ev {α : Type} (f : Nat → Option α) (r : α) : Prop := ∃ k, ∀ j, k ≤ j → f j = some r

theorem Ev.some {α : Type} {r : α} : Ev (fun _ => Option.some r) r := ⟨0, fun _ _ => rfl⟩
theorem Ev.bind {α β : Type} {f : Nat → Option α} {g : Nat → α → Option β} {a : α} {b : β} (h : Ev f a) (h2 : Ev (fun k => g k a) b) : Ev (fun k => (f k).bind (g k)) b := by
 obtain ⟨k, hk⟩ := h
 obtain ⟨m, hm⟩ := h2
 exact ⟨max k m, fun j hj => by show (f j).bind (g j) = _; rw [hk j (by omega)]; exact hm j (by omega)⟩
theorem Ev.succ {α : Type} {f : Nat → Option α} {r : α} (h : Ev (fun k => f (k + 1)) r) : Ev f r := by
 obtain ⟨k, hk⟩ := h
 exact ⟨k + 1, fun j hj => by obtain ⟨m, rfl⟩ : ∃ m, j = m + 1 := ⟨j - 1, by omega⟩; exact hk m (by omega)⟩
theorem Ev.ex {α : Type} {f : Nat → Option α} {r : α} (h : Ev f r) : ∃ k, f k = Option.some r := let ⟨k, hk⟩ := h; ⟨k, hk k (Nat.le_refl _)⟩
theorem Ev.of_mono {α : Type} {f : Nat → Option α} {r : α} (hm : ∀ k, LeO (f k) (f (k + 1))) {k : Nat} (h : f k = Option.some r) : Ev f r := by
  refine ⟨k, fun j hj => ?_⟩
  induction j with
  | zero => obtain rfl : k = 0 := by omega
            exact h
  | succ j ih =>
    by_cases e : k = j + 1
    · subst e; exact h
    · exact hm j r (ih (by omega))
theorem up {i : Nat} (h : i < 4611686018427387904) : wrap64 ((i : Int) + 1) = ((i + 1 : Nat) : Int) := by
 unfold wrap64; omega
theorem w64 {n : Int} (h : -9223372036854775808 ≤ n ∧ n ≤ 9223372036854775807) : wrap64 n = n := by unfold wrap64; omega
theorem rd_nat (l : List Int) (i : Nat) : rd l (i : Int) = l.getD i 0 := by unfold rd; simp
theorem drop_rd {l : List Int} {i : Nat} (h : i < l.length) : l.drop i = rd l (i : Int) :: l.drop (i + 1) := by
 rw [rd_nat, List.drop_eq_getElem_cons h]
 simp [List.getD_eq_getElem?_getD, h]
theorem drop_getD {α : Type} {l : List α} {i : Nat} (z : α) (h : i < l.length) : l.drop i = l.getD i z :: l.drop (i + 1) := by
 rw [List.drop_eq_getElem_cons h]
 simp [List.getD_eq_getElem?_getD, h]

theorem mx_eq (a b : Int) : mx a b = max a b := by unfold mx; split <;> omega
theorem within_eq (a b c : Int) : L_within.f a b c = some (decide (b ≤ a ∧ a ≤ c)) := by
 unfold L_within.f
 by_cases h : b ≤ a <;> simp [h]
theorem Within_eq (a b c : Int) : Bs_Within.f a b c = some (decide (b ≤ a ∧ a ≤ c)) := by
 unfold Bs_Within.f
 by_cases h : b ≤ a <;> simp [h]
theorem unless_eq (b : Bool) (e : Int) : L_unless.f b e = some (if b = true then 0 else e) := by
 unfold L_unless.f
 cases b <;> simp
/-- The first number that is not 0. -/
def fnz : List Int → Int
 | [] => 0
 | x :: r => if x = 0 then fnz r else x

theorem first_l0 (l : List Int) (hl : l.length < 4611686018427387904) : ∀ (n i : Nat), i + n = l.length → Ev (fun k => L_first.l0 k l (l.length : Int) (i : Int)) (fnz (l.drop i))
 | 0, i, h => by
  refine Ev.succ (f := fun k => L_first.l0 k l (l.length : Int) (i : Int)) ?_
  have h1 : ¬ (i : Int) < (l.length : Int) := by omega
  simp only [L_first.l0, h1, if_false]
  rw [show l.drop i = [] from List.drop_eq_nil_of_le (by omega)]
  exact Ev.some
 | n + 1, i, h => by
  refine Ev.succ (f := fun k => L_first.l0 k l (l.length : Int) (i : Int)) ?_
  have h1 : (i : Int) < (l.length : Int) := by omega
  have h2 : (0 : Int) ≤ (i : Int) := by omega
  simp only [L_first.l0, h1, h2, if_true, up (show i < 4611686018427387904 by omega)]
  rw [drop_rd (show i < l.length by omega)]
  unfold fnz
  by_cases e : rd l (i : Int) = 0
  ·simp only [e, if_true]
   exact first_l0 l hl n (i + 1) (by omega)
  ·simp only [e, if_false]
   exact Ev.some
theorem first_ev (l : List Int) (hl : l.length < 4611686018427387904) : Ev (fun k => L_first.f k l) (fnz l) := first_l0 l hl l.length 0 (by omega)

/-- The greatest common divisor of three numbers. -/
def g3 (s o d : Int) : Nat := Nat.gcd (Nat.gcd s.natAbs o.natAbs) d.natAbs
def rotL : List S139 := (L_rotations.f 100).getD []
theorem rotations_ev : Ev (fun k => L_rotations.f k) rotL := Ev.of_mono (k := 100) (fun k => L_rotations.mono k) (by kernel_rfl)
theorem rotL_len : rotL.length = 24 := by kernel_rfl
def un (x : Int) : Bool := x == 0 || x == 1 || x == -1
def un3 (v : S137) : Bool := un v.f0 && un v.f1 && un v.f2
def okM (m : S139) : Bool := un3 m.f0 && un3 m.f1 && un3 m.f2 &&
 (m.f0.f0 * m.f0.f0 + m.f1.f0 * m.f1.f0 + m.f2.f0 * m.f2.f0 == 1) && (m.f0.f1 * m.f0.f1 + m.f1.f1 * m.f1.f1 + m.f2.f1 * m.f2.f1 == 1) && (m.f0.f2 * m.f0.f2 + m.f1.f2 * m.f1.f2 + m.f2.f2 * m.f2.f2 == 1) &&
 (m.f0.f0 * m.f0.f1 + m.f1.f0 * m.f1.f1 + m.f2.f0 * m.f2.f1 == 0) && (m.f0.f0 * m.f0.f2 + m.f1.f0 * m.f1.f2 + m.f2.f0 * m.f2.f2 == 0) && (m.f0.f1 * m.f0.f2 + m.f1.f1 * m.f1.f2 + m.f2.f1 * m.f2.f2 == 0)
theorem rot_ok (i : Nat) (h : i < 24) : okM (rd_T139 rotL (i : Int)) = true := by
 have h2 : i < rotL.length := by rw [rotL_len]; exact h
 have hall : rotL.all okM = true := by kernel_rfl
 have hm : rd_T139 rotL (i : Int) ∈ rotL := by
  unfold rd_T139
  simp only [Int.toNat_natCast, List.getD_eq_getElem?_getD, List.getElem?_eq_getElem h2, Option.getD_some]
  exact List.getElem_mem h2
 exact List.all_eq_true.1 hall _ hm
theorem un_in {x : Int} (h : un x = true) : x = 0 ∨ x = 1 ∨ x = -1 := by
 unfold un at h
 simp only [Bool.or_eq_true, beq_iff_eq] at h
 omega
theorem un_mul {x a B : Int} (h : un x = true) (ha : -B ≤ a ∧ a ≤ B) : -B ≤ x * a ∧ x * a ≤ B := by
 rcases un_in h with rfl | rfl | rfl
 ·rw [Int.zero_mul]; omega
 ·rw [Int.one_mul]; omega
 ·rw [Int.neg_mul, Int.one_mul]; omega
/-- A direction with its sum of squares and so on: three numbers of at most 20 in size. -/
def dirOK (a b c : Int) : Prop := (-20 ≤ a ∧ a ≤ 20) ∧ (-20 ≤ b ∧ b ≤ 20) ∧ (-20 ≤ c ∧ c ≤ 20)
instance (a b c : Int) : Decidable (dirOK a b c) := by unfold dirOK; infer_instance
theorem isDir_eq (a b c : Int) : L_isDirection.f a b c = some (decide (dirOK a b c)) := by
 unfold L_isDirection.f dirOK
 by_cases h1 : -20 ≤ a ∧ a ≤ 20 <;> by_cases h2 : -20 ≤ b ∧ b ≤ 20 <;> by_cases h3 : -20 ≤ c ∧ c ≤ 20 <;> simp [h1, h2, h3] <;> omega
theorem IsDir_ev (a b c : Int) : Ev (fun k => Rf_isDirection.f k a b c) (decide (dirOK a b c)) := by
 refine ⟨4, fun j hj => ?_⟩
 obtain ⟨m, rfl⟩ : ∃ m, j = m + 4 := ⟨j - 4, by omega⟩
 unfold Rf_isDirection.f dirOK
 by_cases h1 : -20 ≤ a ∧ a ≤ 20 <;> by_cases h2 : -20 ≤ b ∧ b ≤ 20 <;> by_cases h3 : -20 ≤ c ∧ c ≤ 20 <;>
  simp [Rf_isDirection.l0, Within_eq, h1, h2, h3, w64 (n := 1) (by omega), w64 (n := 2) (by omega), w64 (n := 3) (by omega)]
def idx24 (i : Int) : Prop := 0 ≤ i ∧ i ≤ 23
instance (i : Int) : Decidable (idx24 i) := by unfold idx24; infer_instance
theorem indexErr_eq (i : Int) : L_indexErr.f i = some (if idx24 i then 0 else 2) := by
 unfold L_indexErr.f idx24
 simp only [within_eq, unless_eq, Option.bind_some, decide_eq_true_eq]
def dot3 (a0 a1 a2 b0 b1 b2 : Int) : Int := a0 * b0 + a1 * b1 + a2 * b2
theorem dot_eq (a0 a1 a2 b0 b1 b2 : Int) (A : Int) (h0 : -A ≤ a0 * b0 ∧ a0 * b0 ≤ A) (h1 : -A ≤ a1 * b1 ∧ a1 * b1 ≤ A) (h2 : -A ≤ a2 * b2 ∧ a2 * b2 ≤ A) (hA : A ≤ 1000000000000) :
  wrap64 (wrap64 (wrap64 (a0 * b0) + wrap64 (a1 * b1)) + wrap64 (a2 * b2)) = dot3 a0 a1 a2 b0 b1 b2 := by
 unfold dot3
 rw [w64 (n := a0 * b0) (by omega), w64 (n := a1 * b1) (by omega), w64 (n := a2 * b2) (by omega), w64 (n := a0 * b0 + a1 * b1) (by omega), w64 (by omega)]
/-- A direction turned by a matrix. -/
def trn (m : S139) (a b c : Int) : Int × Int × Int := (dot3 m.f0.f0 m.f0.f1 m.f0.f2 a b c, dot3 m.f1.f0 m.f1.f1 m.f1.f2 a b c, dot3 m.f2.f0 m.f2.f1 m.f2.f2 a b c)
theorem okM_un {m : S139} (h : okM m = true) : (un m.f0.f0 = true ∧ un m.f0.f1 = true ∧ un m.f0.f2 = true) ∧ (un m.f1.f0 = true ∧ un m.f1.f1 = true ∧ un m.f1.f2 = true) ∧ (un m.f2.f0 = true ∧ un m.f2.f1 = true ∧ un m.f2.f2 = true) := by
 unfold okM un3 at h
 simp only [Bool.and_eq_true] at h
 obtain ⟨⟨⟨⟨⟨⟨⟨⟨⟨⟨h0, h1⟩, h2⟩, ⟨h3, h4⟩, h5⟩, ⟨h6, h7⟩, h8⟩, _⟩, _⟩, _⟩, _⟩, _⟩, _⟩ := h
 exact ⟨⟨h0, h1, h2⟩, ⟨h3, h4, h5⟩, ⟨h6, h7, h8⟩⟩
theorem okM_eq {m : S139} (h : okM m = true) :
  m.f0.f0 * m.f0.f0 + m.f1.f0 * m.f1.f0 + m.f2.f0 * m.f2.f0 = 1 ∧ m.f0.f1 * m.f0.f1 + m.f1.f1 * m.f1.f1 + m.f2.f1 * m.f2.f1 = 1 ∧ m.f0.f2 * m.f0.f2 + m.f1.f2 * m.f1.f2 + m.f2.f2 * m.f2.f2 = 1 ∧
  m.f0.f0 * m.f0.f1 + m.f1.f0 * m.f1.f1 + m.f2.f0 * m.f2.f1 = 0 ∧ m.f0.f0 * m.f0.f2 + m.f1.f0 * m.f1.f2 + m.f2.f0 * m.f2.f2 = 0 ∧ m.f0.f1 * m.f0.f2 + m.f1.f1 * m.f1.f2 + m.f2.f1 * m.f2.f2 = 0 := by
 unfold okM at h
 simp only [Bool.and_eq_true, beq_iff_eq] at h
 obtain ⟨⟨⟨⟨⟨⟨_, h1⟩, h2⟩, h3⟩, h4⟩, h5⟩, h6⟩ := h
 exact ⟨h1, h2, h3, h4, h5, h6⟩
theorem row_eq {x y z a b c : Int} (h : un x = true ∧ un y = true ∧ un z = true) (hd : dirOK a b c) : wrap64 (wrap64 (wrap64 (x * a) + wrap64 (y * b)) + wrap64 (z * c)) = dot3 x y z a b c :=
 dot_eq x y z a b c 20 (un_mul h.1 hd.1) (un_mul h.2.1 hd.2.1) (un_mul h.2.2 hd.2.2) (by omega)
theorem turned_eq {m : S139} (hm : okM m = true) {a b c : Int} (hd : dirOK a b c) :
  L_rotation_turned.f m.f0.f0 m.f0.f1 m.f0.f2 m.f1.f0 m.f1.f1 m.f1.f2 m.f2.f0 m.f2.f1 m.f2.f2 a b c = some (trn m a b c) := by
 obtain ⟨h0, h1, h2⟩ := okM_un hm
 unfold L_rotation_turned.f L_vector_dot.f
 rw [row_eq h0 hd, row_eq h1 hd, row_eq h2 hd]; rfl
theorem keep_core (p q r s t u v w z a b c d e f : Int) (c00 : p * p + s * s + v * v = 1) (c11 : q * q + t * t + w * w = 1) (c22 : r * r + u * u + z * z = 1)
  (c01 : p * q + s * t + v * w = 0) (c02 : p * r + s * u + v * z = 0) (c12 : q * r + t * u + w * z = 0) :
  (p * a + q * b + r * c) * (p * d + q * e + r * f) + (s * a + t * b + u * c) * (s * d + t * e + u * f) + (v * a + w * b + z * c) * (v * d + w * e + z * f) = a * d + b * e + c * f := by
 have e1 : (p * a + q * b + r * c) * (p * d + q * e + r * f) + (s * a + t * b + u * c) * (s * d + t * e + u * f) + (v * a + w * b + z * c) * (v * d + w * e + z * f)
   = (p * p + s * s + v * v) * (a * d) + (q * q + t * t + w * w) * (b * e) + (r * r + u * u + z * z) * (c * f) + (p * q + s * t + v * w) * (a * e + b * d) + (p * r + s * u + v * z) * (a * f + c * d) + (q * r + t * u + w * z) * (b * f + c * e) := by grind
 rw [e1, c00, c11, c22, c01, c02, c12]; omega
/-- Sums of products are kept. -/
theorem trn_keep {m : S139} (hm : okM m = true) (a b c d e f : Int) : dot3 (trn m a b c).1 (trn m a b c).2.1 (trn m a b c).2.2 (trn m d e f).1 (trn m d e f).2.1 (trn m d e f).2.2 = dot3 a b c d e f := by
 obtain ⟨h1, h2, h3, h4, h5, h6⟩ := okM_eq hm
 unfold trn dot3
 exact keep_core _ _ _ _ _ _ _ _ _ a b c d e f h1 h2 h3 h4 h5 h6
theorem inj_core (p q r s t u v w z a b c : Int) (c00 : p * p + s * s + v * v = 1) (c11 : q * q + t * t + w * w = 1) (c22 : r * r + u * u + z * z = 1)
  (c01 : p * q + s * t + v * w = 0) (c02 : p * r + s * u + v * z = 0) (c12 : q * r + t * u + w * z = 0) :
  a = p * (p * a + q * b + r * c) + s * (s * a + t * b + u * c) + v * (v * a + w * b + z * c) ∧ b = q * (p * a + q * b + r * c) + t * (s * a + t * b + u * c) + w * (v * a + w * b + z * c) ∧ c = r * (p * a + q * b + r * c) + u * (s * a + t * b + u * c) + z * (v * a + w * b + z * c) := by
 have e1 : p * (p * a + q * b + r * c) + s * (s * a + t * b + u * c) + v * (v * a + w * b + z * c) = (p * p + s * s + v * v) * a + (p * q + s * t + v * w) * b + (p * r + s * u + v * z) * c := by grind
 have e2 : q * (p * a + q * b + r * c) + t * (s * a + t * b + u * c) + w * (v * a + w * b + z * c) = (p * q + s * t + v * w) * a + (q * q + t * t + w * w) * b + (q * r + t * u + w * z) * c := by grind
 have e3 : r * (p * a + q * b + r * c) + u * (s * a + t * b + u * c) + z * (v * a + w * b + z * c) = (p * r + s * u + v * z) * a + (q * r + t * u + w * z) * b + (r * r + u * u + z * z) * c := by grind
 rw [e1, e2, e3, c00, c11, c22, c01, c02, c12]; omega
theorem trn_inj {m : S139} (hm : okM m = true) {a b c d e f : Int} (h : trn m a b c = trn m d e f) : a = d ∧ b = e ∧ c = f := by
 obtain ⟨h1, h2, h3, h4, h5, h6⟩ := okM_eq hm
 have i1 := inj_core _ _ _ _ _ _ _ _ _ a b c h1 h2 h3 h4 h5 h6
 have i2 := inj_core _ _ _ _ _ _ _ _ _ d e f h1 h2 h3 h4 h5 h6
 unfold trn dot3 at h
 simp only [Prod.mk.injEq] at h
 obtain ⟨g1, g2, g3⟩ := h
 rw [g1, g2, g3] at i1
 exact ⟨i1.1.trans i2.1.symm, i1.2.1.trans i2.2.1.symm, i1.2.2.trans i2.2.2.symm⟩
theorem trn_in {m : S139} (hm : okM m = true) {a b c : Int} (hd : dirOK a b c) : (-60 ≤ (trn m a b c).1 ∧ (trn m a b c).1 ≤ 60) ∧ (-60 ≤ (trn m a b c).2.1 ∧ (trn m a b c).2.1 ≤ 60) ∧ (-60 ≤ (trn m a b c).2.2 ∧ (trn m a b c).2.2 ≤ 60) := by
 obtain ⟨⟨h0, h1, h2⟩, ⟨h3, h4, h5⟩, ⟨h6, h7, h8⟩⟩ := okM_un hm
 obtain ⟨d1, d2, d3⟩ := hd
 have e0 := un_mul h0 d1; have e1 := un_mul h1 d2; have e2 := un_mul h2 d3
 have e3 := un_mul h3 d1; have e4 := un_mul h4 d2; have e5 := un_mul h5 d3
 have e6 := un_mul h6 d1; have e7 := un_mul h7 d2; have e8 := un_mul h8 d3
 unfold trn dot3
 refine ⟨?_, ?_, ?_⟩ <;> (simp only []; omega)

theorem TurnedErr_ev (i a b c : Int) : Ev (fun k => Rf_TurnedErr.f k i a b c) (if idx24 i ∧ dirOK a b c then 0 else 2) := by
 unfold Rf_TurnedErr.f
 simp only [Within_eq, Option.bind_some, decide_eq_true_eq]
 by_cases h : 0 ≤ i ∧ i ≤ 23
 ·have h' : idx24 i := h
  simp only [h, h', and_self, if_true, true_and]
  refine Ev.bind (IsDir_ev a b c) ?_
  by_cases hd : dirOK a b c
  ·simp only [hd, decide_true, if_true]; exact Ev.some
  ·simp only [hd, decide_false, if_false, Bool.false_eq_true]; exact Ev.some
 ·have h' : ¬ idx24 i := h
  simp only [h, h', if_false, false_and]; exact Ev.some
/-- What TurnedBy says. -/
def tby (i a b c : Int) : Int × Int × Int × Int :=
 if idx24 i ∧ dirOK a b c then ((trn (rd_T139 rotL i) a b c).1, (trn (rd_T139 rotL i) a b c).2.1, (trn (rd_T139 rotL i) a b c).2.2, 0) else (0, 0, 0, 2)
theorem TurnedBy_ev (i a b c : Int) : Ev (fun k => L_TurnedBy.f k i a b c) (tby i a b c) := by
 unfold L_TurnedBy.f tby
 rw [indexErr_eq, isDir_eq]
 simp only [unless_eq, Option.bind_some, decide_eq_true_eq]
 refine Ev.bind (first_ev _ (by simp)) ?_
 by_cases h : idx24 i
 ·by_cases hd : dirOK a b c
  ·simp only [h, hd, fnz, and_self, if_true]
   refine Ev.bind rotations_ev ?_
   obtain ⟨n, rfl⟩ : ∃ n : Nat, i = (n : Int) := ⟨i.toNat, by have := h.1; omega⟩
   have hn : n < 24 := by have := h.2; omega
   have hl : (n : Int) < (rotL.length : Int) := by rw [rotL_len]; omega
   simp only [show (0 : Int) ≤ (n : Int) by omega, hl, if_true, turned_eq (rot_ok n hn) hd, Option.bind_some]
   exact Ev.some
  ·simp only [h, hd, fnz, and_false, if_true, if_false, show ¬ (2 : Int) = 0 by decide]; exact Ev.some
 ·simp only [h, fnz, false_and, if_false, show ¬ (2 : Int) = 0 by decide]; exact Ev.some
def dS (v : S44) : Prop := dirOK v.f0 v.f1 v.f2
instance (v : S44) : Decidable (dS v) := by unfold dS; infer_instance
def nzS (v : S44) : Prop := ¬ (v.f0 = 0 ∧ v.f1 = 0 ∧ v.f2 = 0)
instance (v : S44) : Decidable (nzS v) := by unfold nzS; infer_instance
/-- The error of a sight. -/
def stE (t : S126) : Int := if dS t.f0 ∧ dS t.f1 then (if nzS t.f0 ∧ nzS t.f1 then 0 else 11) else 2
theorem nz_b (v : S44) : (!(v.f0 == 0) || (!(v.f1 == 0) || (!(v.f2 == 0)))) = decide (nzS v) := by
 unfold nzS
 by_cases h0 : v.f0 = 0 <;> by_cases h1 : v.f1 = 0 <;> by_cases h2 : v.f2 = 0 <;> simp [h0, h1, h2]
theorem z_b (v : S44) : (v.f0 == 0 && (v.f1 == 0 && (v.f2 == 0))) = !decide (nzS v) := by
 unfold nzS
 by_cases h0 : v.f0 = 0 <;> by_cases h1 : v.f1 = 0 <;> by_cases h2 : v.f2 = 0 <;> simp [h0, h1, h2]
theorem rd126_drop {l : List S126} {i : Nat} (h : i < l.length) : l.drop i = rd_T126 l (i : Int) :: l.drop (i + 1) := by
 rw [drop_getD z126 h]; rfl
theorem rd126_mem {l : List S126} {i : Nat} (h : i < l.length) : rd_T126 l (i : Int) ∈ l := by
 have : rd_T126 l (i : Int) ∈ l.drop i := by rw [rd126_drop h]; exact List.mem_cons_self
 exact List.mem_of_mem_drop this
theorem fnzS (x u v : Int) (r : List Int) : fnz (x :: (fnz [u, v] :: r)) = fnz (fnz [x, u, v] :: r) := by
 by_cases h : x = 0
 ·subst h; rfl
 ·simp only [fnz, h, if_false]
theorem sights_l0 (l : List S126) (hl : l.length < 4611686018427387904) : ∀ (n i : Nat) (x : Int), i + n = l.length → Ev (fun k => L_sightsErr.l0 k x l (l.length : Int) (i : Int)) (fnz (x :: (l.drop i).map stE))
 | 0, i, x, h => by
  refine Ev.succ (f := fun k => L_sightsErr.l0 k x l (l.length : Int) (i : Int)) ?_
  simp only [L_sightsErr.l0, show ¬ (i : Int) < (l.length : Int) by omega, if_false]
  rw [show l.drop i = [] from List.drop_eq_nil_of_le (by omega)]
  simp only [List.map_nil, fnz]
  by_cases h0 : x = 0
  ·simp only [h0, if_true]; exact Ev.some
  ·simp only [h0, if_false]; exact Ev.some
 | n + 1, i, x, h => by
  refine Ev.succ (f := fun k => L_sightsErr.l0 k x l (l.length : Int) (i : Int)) ?_
  have key : ∀ u v : Int, fnz [u, v] = stE (rd_T126 l (i : Int)) → Ev (fun k => (L_first.f k [x, u, v]).bind fun t => L_sightsErr.l0 k t l (l.length : Int) ((i + 1 : Nat) : Int)) (fnz (x :: (l.drop i).map stE)) := by
   intro u v e
   refine Ev.bind (first_ev _ (by simp)) ?_
   rw [rd126_drop (show i < l.length by omega), List.map_cons, ← e, fnzS]
   exact sights_l0 l hl n (i + 1) _ (by omega)
  simp only [L_sightsErr.l0, show (i : Int) < (l.length : Int) by omega, show (0 : Int) ≤ (i : Int) by omega, if_true, isDir_eq, unless_eq, Option.bind_some, up (show i < 4611686018427387904 by omega), decide_eq_true_eq]
  generalize rd_T126 l (i : Int) = p at key ⊢
  rw [nz_b, nz_b]
  unfold stE at key
  unfold dS at key
  simp only [decide_eq_true_eq]
  by_cases h1 : dirOK p.f0.f0 p.f0.f1 p.f0.f2
  ·simp only [h1, if_true, true_and] at key ⊢
   by_cases h2 : nzS p.f0
   ·simp only [h2, if_true, true_and] at key ⊢
    refine key _ _ ?_
    by_cases h3 : dirOK p.f1.f0 p.f1.f1 p.f1.f2
    ·by_cases h4 : nzS p.f1
     ·simp only [h3, h4, if_true, fnz]
     ·simp only [h3, h4, if_true, if_false, fnz, show ¬ (11 : Int) = 0 by decide]
    ·simp only [h3, if_false, fnz, show ¬ (2 : Int) = 0 by decide]
   ·simp only [h2, if_false, false_and, Bool.false_eq_true] at key ⊢
    refine key _ _ ?_
    by_cases h3 : dirOK p.f1.f0 p.f1.f1 p.f1.f2
    ·simp only [h3, if_true, if_false, fnz, show ¬ (11 : Int) = 0 by decide]
    ·simp only [h3, if_false, fnz, show ¬ (2 : Int) = 0 by decide]
  ·simp only [h1, if_false, false_and, Bool.false_eq_true] at key ⊢
   by_cases h2 : nzS p.f0
   ·simp only [h2, if_true]
    exact key _ _ (by simp only [fnz, show ¬ (2 : Int) = 0 by decide, if_false])
   ·simp only [h2, if_false]
    exact key _ _ (by simp only [fnz, show ¬ (2 : Int) = 0 by decide, if_false])
/-- The error of sights. -/
def ssE (l : List S126) : Int := if l.length = 0 then 10 else if 8 < l.length then 8 else fnz (l.map stE)
theorem sightsErr_ev (l : List S126) (hl : l.length < 4611686018427387904) : Ev (fun k => L_sightsErr.f k l) (ssE l) := by
 unfold L_sightsErr.f ssE
 simp only [unless_eq, Option.bind_some, decide_eq_true_eq]
 refine Ev.bind (first_ev _ (by simp)) ?_
 have := fun x => sights_l0 l hl l.length 0 x (by omega)
 simp only [List.drop_zero] at this
 by_cases h0 : l.length = 0
 ·simp only [h0, show ¬ (((0 : Nat) : Int) > 0) by omega, if_false, if_true, fnz, show ¬ (10 : Int) = 0 by decide]
  have h2 := this 10
  simp only [fnz, show ¬ (10 : Int) = 0 by decide, if_false, h0] at h2
  exact h2
 ·by_cases h1 : 8 < l.length
  ·simp only [h0, h1, show (l.length : Int) > 0 by omega, show ¬ (l.length : Int) ≤ 8 by omega, if_false, if_true, fnz, show ¬ (8 : Int) = 0 by decide]
   have h2 := this 8
   simp only [fnz, show ¬ (8 : Int) = 0 by decide, if_false] at h2
   exact h2
  ·simp only [h0, h1, show (l.length : Int) > 0 by omega, show (l.length : Int) ≤ 8 by omega, if_false, if_true, fnz]
   have h2 := this 0
   simp only [fnz, if_true] at h2
   exact h2
theorem SightsErr_l0 (l : List S126) (hl : l.length < 4611686018427387904) : ∀ (n i : Nat), i + n = l.length → Ev (fun k => Rf_SightsErr.l0 k l (i : Int)) (fnz ((l.drop i).map stE))
 | 0, i, h => by
  refine Ev.succ (f := fun k => Rf_SightsErr.l0 k l (i : Int)) ?_
  simp only [Rf_SightsErr.l0, show ¬ (i : Int) < (l.length : Int) by omega, if_false]
  rw [show l.drop i = [] from List.drop_eq_nil_of_le (by omega)]
  exact Ev.some
 | n + 1, i, h => by
  refine Ev.succ (f := fun k => Rf_SightsErr.l0 k l (i : Int)) ?_
  have ih := SightsErr_l0 l hl n (i + 1) (by omega)
  rw [rd126_drop (show i < l.length by omega), List.map_cons]
  simp only [Rf_SightsErr.l0, show (i : Int) < (l.length : Int) by omega, show (0 : Int) ≤ (i : Int) by omega, if_true]
  obtain ⟨p, hp⟩ : ∃ p, p = rd_T126 l (i : Int) := ⟨_, rfl⟩
  rw [← hp]
  have hj : ∀ b : Bool, (b = true ↔ ¬ (dS p.f0 ∧ dS p.f1)) → Ev (fun k => Rf_SightsErr.j1 k l (i : Int) b) (fnz (stE p :: (l.drop (i + 1)).map stE)) := by
   intro b hb
   refine Ev.succ (f := fun k => Rf_SightsErr.j1 k l (i : Int) b) ?_
   cases b with
   | true =>
    have h1 := hb.1 rfl
    unfold stE
    simp only [Rf_SightsErr.j1, if_true, h1, if_false, fnz, show ¬ (2 : Int) = 0 by decide]
    exact Ev.some
   | false =>
    have h1 : dS p.f0 ∧ dS p.f1 := Classical.byContradiction fun h => by have := hb.2 h; cases this
    simp only [Rf_SightsErr.j1, Bool.false_eq_true, if_false, show (i : Int) < (l.length : Int) by omega, show (0 : Int) ≤ (i : Int) by omega, if_true, ← hp, up (show i < 4611686018427387904 by omega), z_b]
    unfold stE
    rw [if_pos h1]
    by_cases h2 : nzS p.f0
    ·by_cases h3 : nzS p.f1
     ·simp only [h2, h3, and_self, decide_true, Bool.not_true, Bool.false_eq_true, if_true, if_false, fnz]; exact ih
     ·simp only [h2, h3, and_false, decide_true, decide_false, Bool.not_true, Bool.not_false, Bool.false_eq_true, if_true, if_false, fnz, show ¬ (11 : Int) = 0 by decide]; exact Ev.some
    ·simp only [h2, false_and, decide_false, Bool.not_false, if_true, if_false, fnz, show ¬ (11 : Int) = 0 by decide]; exact Ev.some
  refine Ev.bind (IsDir_ev _ _ _) ?_
  by_cases h1 : dirOK p.f0.f0 p.f0.f1 p.f0.f2
  ·simp only [h1, decide_true, if_true]
   refine Ev.bind (IsDir_ev _ _ _) ?_
   refine hj _ ?_
   by_cases h2 : dirOK p.f1.f0 p.f1.f1 p.f1.f2
   ·simp only [h2, decide_true, Bool.not_true]
    exact ⟨fun h => (by cases h), fun h => absurd ⟨h1, h2⟩ h⟩
   ·simp only [h2, decide_false, Bool.not_false]
    exact ⟨fun _ h => h2 h.2, fun _ => trivial⟩
  ·simp only [h1, decide_false, Bool.false_eq_true, if_false]
   exact hj true ⟨fun _ h => h1 h.1, fun _ => rfl⟩
theorem SightsErr_ev (l : List S126) (hl : l.length < 4611686018427387904) : Ev (fun k => Rf_SightsErr.f k l) (ssE l) := by
 unfold Rf_SightsErr.f ssE
 by_cases h0 : l.length = 0
 ·simp only [h0, eq_true (show (l.length : Int) = 0 by omega), if_true]; exact Ev.some
 ·by_cases h1 : 8 < l.length
  ·simp only [h0, h1, show ¬ (l.length : Int) = 0 by omega, show (l.length : Int) > 8 by omega, if_true, if_false]; exact Ev.some
  ·simp only [h0, h1, show ¬ (l.length : Int) = 0 by omega, show ¬ (l.length : Int) > 8 by omega, if_false]
   have := SightsErr_l0 l hl l.length 0 (by omega)
   simpa using this
theorem fnz_zero : ∀ l : List Int, fnz l = 0 ↔ ∀ x ∈ l, x = 0
 | [] => by simp [fnz]
 | a :: r => by
  unfold fnz
  have ih := fnz_zero r
  by_cases e : a = 0
  ·rw [if_pos e, ih]; simp [e]
  ·rw [if_neg e]; simp [e]
/-- Valid sights. -/
theorem sights_ok {l : List S126} (h : ssE l = 0) : 1 ≤ l.length ∧ l.length ≤ 8 ∧ ∀ t ∈ l, dS t.f0 ∧ dS t.f1 := by
 unfold ssE at h
 by_cases h0 : l.length = 0
 ·rw [if_pos h0] at h; cases h
 ·rw [if_neg h0] at h
  by_cases h1 : 8 < l.length
  ·rw [if_pos h1] at h; cases h
  ·rw [if_neg h1] at h
   refine ⟨by omega, by omega, fun t ht => ?_⟩
   have := (fnz_zero _).1 h (stE t) (List.mem_map_of_mem ht)
   unfold stE at this
   by_cases e : dS t.f0 ∧ dS t.f1
   ·exact e
   ·rw [if_neg e] at this; cases this
theorem CopySights_eq (l : List S126) (h : l.length < 2932031007402) : Rf_CopySights.f l = some l := by
 unfold Rf_CopySights.f
 simp [h]

def dt (m : S139) (t : S126) : Int := dot3 t.f1.f0 t.f1.f1 t.f1.f2 (trn m t.f0.f0 t.f0.f1 t.f0.f2).1 (trn m t.f0.f0 t.f0.f1 t.f0.f2).2.1 (trn m t.f0.f0 t.f0.f1 t.f0.f2).2.2
def scr (m : S139) : List S126 → Int
 | [] => 0
 | t :: r => dt m t + scr m r
/-- The scores of all rotations. -/
def scL (l : List S126) : List Int := rotL.map fun m => scr m l
theorem p20 {x y : Int} (hx : -20 ≤ x ∧ x ≤ 20) (hy : -60 ≤ y ∧ y ≤ 60) : -1200 ≤ x * y ∧ x * y ≤ 1200 := by
 have h : (x * y).natAbs ≤ 20 * 60 := by rw [Int.natAbs_mul]; exact Nat.mul_le_mul (by omega) (by omega)
 omega
theorem dt_eq {m : S139} (hm : okM m = true) {t : S126} (h : dS t.f0 ∧ dS t.f1) :
  L_vector_dot.f t.f1.f0 t.f1.f1 t.f1.f2 (trn m t.f0.f0 t.f0.f1 t.f0.f2).1 (trn m t.f0.f0 t.f0.f1 t.f0.f2).2.1 (trn m t.f0.f0 t.f0.f1 t.f0.f2).2.2 = some (dt m t) ∧ (-3600 ≤ dt m t ∧ dt m t ≤ 3600) := by
 obtain ⟨t1, t2, t3⟩ := trn_in hm h.1
 obtain ⟨d1, d2, d3⟩ := h.2
 have q1 := p20 d1 t1
 have q2 := p20 d2 t2
 have q3 := p20 d3 t3
 constructor
 ·unfold L_vector_dot.f
  rw [dot_eq _ _ _ _ _ _ 1200 q1 q2 q3 (by omega)]; rfl
 ·unfold dt dot3; omega
theorem scr_in {m : S139} (hm : okM m = true) : ∀ r : List S126, (∀ t ∈ r, dS t.f0 ∧ dS t.f1) → -3600 * (r.length : Int) ≤ scr m r ∧ scr m r ≤ 3600 * (r.length : Int)
 | [], _ => by simp [scr]
 | t :: r, h => by
  have ih := scr_in hm r (fun x hx => h x (List.mem_cons_of_mem _ hx))
  have := (dt_eq hm (h t List.mem_cons_self)).2
  simp only [scr, List.length_cons]
  omega
theorem scores_l1 (l : List S126) (hl : l.length ≤ 8) (hk : ∀ t ∈ l, dS t.f0 ∧ dS t.f1) (m : S139) (hm : okM m = true) (acc : List Int) (ha : acc.length ≤ 24) (x10 x11 : Int) (r : List Int) (hr : Ev (fun k => L_scores.l0 k l (acc ++ [scr m l]) rotL x10 (wrap64 (x11 + 1))) r) : ∀ (n i : Nat) (s : Int), i + n = l.length → (-3600 * (i : Int) ≤ s ∧ s ≤ 3600 * (i : Int)) → s + scr m (l.drop i) = scr m l →
  Ev (fun k => L_scores.l1 k l acc s rotL x10 x11 l (l.length : Int) (i : Int) m.f0.f0 m.f0.f1 m.f0.f2 m.f1.f0 m.f1.f1 m.f1.f2 m.f2.f0 m.f2.f1 m.f2.f2) r
 | 0, i, s, h, hs, e => by
  refine Ev.succ (f := fun k => L_scores.l1 k l acc s rotL x10 x11 l (l.length : Int) (i : Int) m.f0.f0 m.f0.f1 m.f0.f2 m.f1.f0 m.f1.f1 m.f1.f2 m.f2.f0 m.f2.f1 m.f2.f2) ?_
  rw [show l.drop i = [] from List.drop_eq_nil_of_le (by omega)] at e
  simp only [L_scores.l1, show ¬ (i : Int) < (l.length : Int) by omega, if_false, show acc.length < 17592186044416 by omega, if_true]
  rw [show s = scr m l by simp only [scr] at e; omega]
  exact hr
 | n + 1, i, s, h, hs, e => by
  refine Ev.succ (f := fun k => L_scores.l1 k l acc s rotL x10 x11 l (l.length : Int) (i : Int) m.f0.f0 m.f0.f1 m.f0.f2 m.f1.f0 m.f1.f1 m.f1.f2 m.f2.f0 m.f2.f1 m.f2.f2) ?_
  have hi : i < l.length := by omega
  have ht := hk _ (rd126_mem hi)
  rw [rd126_drop hi] at e
  simp only [scr] at e
  obtain ⟨d1, d2⟩ := dt_eq hm ht
  simp only [L_scores.l1, show (i : Int) < (l.length : Int) by omega, show (0 : Int) ≤ (i : Int) by omega, if_true, turned_eq hm ht.1, Option.bind_some, d1, up (show i < 4611686018427387904 by omega), w64 (n := s + dt m (rd_T126 l (i : Int))) (by omega)]
  exact scores_l1 l hl hk m hm acc ha x10 x11 r hr n (i + 1) (s + dt m (rd_T126 l (i : Int))) (by omega) (by omega) (by omega)
theorem rot_drop {p : Nat} (h : p < 24) : rotL.drop p = rd_T139 rotL (p : Int) :: rotL.drop (p + 1) := by
 rw [drop_getD z139 (by rw [rotL_len]; exact h)]; rfl
theorem scores_l0 (l : List S126) (hl : l.length ≤ 8) (hk : ∀ t ∈ l, dS t.f0 ∧ dS t.f1) : ∀ (n p : Nat) (acc : List Int), p + n = 24 → acc.length = p → Ev (fun k => L_scores.l0 k l acc rotL 24 (p : Int)) (acc ++ (rotL.drop p).map fun m => scr m l)
 | 0, p, acc, h, ha => by
  refine Ev.succ (f := fun k => L_scores.l0 k l acc rotL 24 (p : Int)) ?_
  simp only [L_scores.l0, show ¬ (p : Int) < 24 by omega, if_false]
  rw [show rotL.drop p = [] from List.drop_eq_nil_of_le (by rw [rotL_len]; omega)]
  simp only [List.map_nil, List.append_nil]
  exact Ev.some
 | n + 1, p, acc, h, ha => by
  refine Ev.succ (f := fun k => L_scores.l0 k l acc rotL 24 (p : Int)) ?_
  have hp : p < 24 := by omega
  have hm := rot_ok p hp
  rw [rot_drop hp, List.map_cons]
  have ih := scores_l0 l hl hk n (p + 1) (acc ++ [scr (rd_T139 rotL (p : Int)) l]) (by omega) (by simp; omega)
  rw [List.append_assoc] at ih
  simp only [L_scores.l0, show (p : Int) < 24 by omega, show (0 : Int) ≤ (p : Int) by omega, rotL_len, show (p : Int) < ((24 : Nat) : Int) by omega, if_true]
  refine scores_l1 l hl hk _ hm acc (by omega) 24 (p : Int) _ ?_ l.length 0 0 (by omega) (by omega) (by rw [List.drop_zero]; omega)
  rw [up (show p < 4611686018427387904 by omega)]
  exact ih
theorem scores_ev {l : List S126} (hl : l.length ≤ 8) (hk : ∀ t ∈ l, dS t.f0 ∧ dS t.f1) : Ev (fun k => L_scores.f k l) (scL l) := by
 unfold L_scores.f
 refine Ev.bind rotations_ev ?_
 rw [rotL_len]
 have := scores_l0 l hl hk 24 0 [] (by omega) rfl
 unfold scL
 simpa using this
theorem scL_len (l : List S126) : (scL l).length = 24 := by unfold scL; rw [List.length_map, rotL_len]
theorem rot_mem {m : S139} (h : m ∈ rotL) : ∃ p : Nat, p < 24 ∧ m = rd_T139 rotL (p : Int) := by
 obtain ⟨p, hp, e⟩ := List.getElem_of_mem h
 refine ⟨p, by rw [rotL_len] at hp; exact hp, ?_⟩
 unfold rd_T139
 rw [← e]
 simp [List.getD_eq_getElem?_getD, hp]
theorem scL_in {l : List S126} (hl : l.length ≤ 8) (hk : ∀ t ∈ l, dS t.f0 ∧ dS t.f1) : ∀ x ∈ scL l, -28800 ≤ x ∧ x ≤ 28800 := by
 intro x hx
 obtain ⟨m, hm, rfl⟩ := List.mem_map.1 hx
 obtain ⟨p, hp, rfl⟩ := rot_mem hm
 have := scr_in (rot_ok p hp) l hk
 omega

theorem rdi_mem {l : List Int} {i : Nat} (h : i < l.length) : rd l (i : Int) ∈ l := by
 have : rd l (i : Int) ∈ l.drop i := by rw [drop_rd h]; exact List.mem_cons_self
 exact List.mem_of_mem_drop this
theorem mem_rdi {l : List Int} {x : Int} (h : x ∈ l) : ∃ i : Nat, i < l.length ∧ rd l (i : Int) = x := by
 obtain ⟨i, hi, e⟩ := List.getElem_of_mem h
 refine ⟨i, hi, ?_⟩
 rw [rd_nat, ← e]
 simp [List.getD_eq_getElem?_getD, hi]
/-- The first one of the greatest. -/
def FM (l : List Int) (j : Nat) : Prop := j < l.length ∧ (∀ i : Nat, i < l.length → rd l (i : Int) ≤ rd l (j : Int)) ∧ ∀ i : Nat, i < j → rd l (i : Int) < rd l (j : Int)
theorem Max_l0 (l : List Int) (hl : l.length < 4611686018427387904) : ∀ (n i : Nat) (a : Int), i + n = l.length → (∃ q : Nat, q < i ∧ rd l (q : Int) = a) → (∀ q : Nat, q < i → rd l (q : Int) ≤ a) → ∃ M, Ev (fun k => slices_Max_int_int.l0 k l a (i : Int)) M ∧ (∃ q : Nat, q < l.length ∧ rd l (q : Int) = M) ∧ ∀ q : Nat, q < l.length → rd l (q : Int) ≤ M
 | 0, i, a, h, h1, h2 => by
  refine ⟨a, ?_, by rw [show l.length = i by omega]; exact h1, by rw [show l.length = i by omega]; exact h2⟩
  refine Ev.succ (f := fun k => slices_Max_int_int.l0 k l a (i : Int)) ?_
  simp only [slices_Max_int_int.l0, show ¬ (i : Int) < (l.length : Int) by omega, if_false]
  exact Ev.some
 | n + 1, i, a, h, h1, h2 => by
  obtain ⟨M, hM, r1, r2⟩ := Max_l0 l hl n (i + 1) (max a (rd l (i : Int))) (by omega) (by
   by_cases c : a ≤ rd l (i : Int)
   ·exact ⟨i, by omega, by omega⟩
   ·obtain ⟨q, q1, q2⟩ := h1; exact ⟨q, by omega, by omega⟩) (fun q hq => by
    by_cases e : q = i
    ·subst e; omega
    ·have := h2 q (by omega); omega)
  refine ⟨M, ?_, r1, r2⟩
  refine Ev.succ (f := fun k => slices_Max_int_int.l0 k l a (i : Int)) ?_
  simp only [slices_Max_int_int.l0, show (i : Int) < (l.length : Int) by omega, show (0 : Int) ≤ (i : Int) by omega, if_true, mx_eq, up (show i < 4611686018427387904 by omega)]
  exact hM
theorem Max_ev {l : List Int} (h0 : 1 ≤ l.length) (hl : l.length < 4611686018427387904) : ∃ M, Ev (fun k => slices_Max_int_int.f k l) M ∧ (∃ q : Nat, q < l.length ∧ rd l (q : Int) = M) ∧ ∀ q : Nat, q < l.length → rd l (q : Int) ≤ M := by
 obtain ⟨M, hM, r⟩ := Max_l0 l hl (l.length - 1) 1 (rd l 0) (by omega) ⟨0, by omega, rfl⟩ (fun q hq => (by
  have e : q = 0 := by omega
  subst e
  exact Int.le_refl _))
 refine ⟨M, ?_, r⟩
 unfold slices_Max_int_int.f
 simp only [show ¬ (l.length : Int) < 1 by omega, show (0 : Int) < (l.length : Int) by omega, if_true, if_false]
 exact hM
theorem Index_l0 (l : List Int) (hl : l.length < 4611686018427387904) (M : Int) : ∀ (n i : Nat), i + n = l.length → (∀ q : Nat, q < i → rd l (q : Int) ≠ M) → (∃ q : Nat, q < l.length ∧ rd l (q : Int) = M) → ∃ j : Nat, Ev (fun k => slices_Index_int_int.l0 k l M (l.length : Int) (i : Int)) (j : Int) ∧ j < l.length ∧ rd l (j : Int) = M ∧ ∀ q : Nat, q < j → rd l (q : Int) ≠ M
 | 0, i, h, h1, ⟨q, q1, q2⟩ => absurd q2 (h1 q (by omega))
 | n + 1, i, h, h1, h2 => by
  by_cases e : M = rd l (i : Int)
  ·refine ⟨i, ?_, by omega, e.symm, h1⟩
   refine Ev.succ (f := fun k => slices_Index_int_int.l0 k l M (l.length : Int) (i : Int)) ?_
   simp only [slices_Index_int_int.l0, show (i : Int) < (l.length : Int) by omega, show (0 : Int) ≤ (i : Int) by omega, if_true, eq_true e]
   exact Ev.some
  ·obtain ⟨j, hj, r⟩ := Index_l0 l hl M n (i + 1) (by omega) (fun q hq => by
    by_cases c : q = i
    ·subst c; exact fun h => e h.symm
    ·exact h1 q (by omega)) h2
   refine ⟨j, ?_, r⟩
   refine Ev.succ (f := fun k => slices_Index_int_int.l0 k l M (l.length : Int) (i : Int)) ?_
   simp only [slices_Index_int_int.l0, show (i : Int) < (l.length : Int) by omega, show (0 : Int) ≤ (i : Int) by omega, if_true, e, if_false, up (show i < 4611686018427387904 by omega)]
   exact hj
theorem Pointing_l0 (l : List Int) (hl : l.length < 4611686018427387904) : ∀ (n i b : Nat), i + n = l.length → b < l.length → (∀ q : Nat, q < i → rd l (q : Int) ≤ rd l (b : Int)) → (∀ q : Nat, q < b → rd l (q : Int) < rd l (b : Int)) → ∃ j : Nat, FM l j ∧ Ev (fun k => Rf_Pointing.l0 k l (b : Int) (i : Int)) (j : Int)
 | 0, i, b, h, hb, h1, h2 => by
  refine ⟨b, ⟨hb, fun q hq => h1 q (by omega), h2⟩, ?_⟩
  refine Ev.succ (f := fun k => Rf_Pointing.l0 k l (b : Int) (i : Int)) ?_
  simp only [Rf_Pointing.l0, show ¬ (i : Int) < (l.length : Int) by omega, if_false]
  exact Ev.some
 | n + 1, i, b, h, hb, h1, h2 => by
  by_cases c : rd l (i : Int) > rd l (b : Int)
  ·obtain ⟨j, hj, hE⟩ := Pointing_l0 l hl n (i + 1) i (by omega) (by omega) (fun q hq => by
    by_cases e : q = i
    ·subst e; exact Int.le_refl _
    ·have := h1 q (by omega); omega) (fun q hq => by have := h1 q (by omega); omega)
   refine ⟨j, hj, ?_⟩
   refine Ev.succ (f := fun k => Rf_Pointing.l0 k l (b : Int) (i : Int)) ?_
   simp only [Rf_Pointing.l0, show (i : Int) < (l.length : Int) by omega, show (0 : Int) ≤ (i : Int) by omega, show (0 : Int) ≤ (b : Int) by omega, show (b : Int) < (l.length : Int) by omega, c, if_true, up (show i < 4611686018427387904 by omega)]
   exact hE
  ·obtain ⟨j, hj, hE⟩ := Pointing_l0 l hl n (i + 1) b (by omega) hb (fun q hq => by
    by_cases e : q = i
    ·subst e; omega
    ·exact h1 q (by omega)) h2
   refine ⟨j, hj, ?_⟩
   refine Ev.succ (f := fun k => Rf_Pointing.l0 k l (b : Int) (i : Int)) ?_
   simp only [Rf_Pointing.l0, show (i : Int) < (l.length : Int) by omega, show (0 : Int) ≤ (i : Int) by omega, show (0 : Int) ≤ (b : Int) by omega, show (b : Int) < (l.length : Int) by omega, c, if_true, if_false, up (show i < 4611686018427387904 by omega)]
   exact hE
theorem Pointing_ev {l : List Int} (h0 : 1 ≤ l.length) (hl : l.length < 4611686018427387904) : ∃ j : Nat, FM l j ∧ Ev (fun k => Rf_Pointing.f k l) (j : Int) :=
 Pointing_l0 l hl l.length 0 0 (by omega) (by omega) (fun q hq => by omega) (fun q hq => by omega)
theorem MaxIndex_ev {l : List Int} (h0 : 1 ≤ l.length) (hl : l.length < 4611686018427387904) {j : Nat} (hj : FM l j) : Ev (fun k => slices_Max_int_int.f k l) (rd l (j : Int)) ∧ Ev (fun k => slices_Index_int_int.f k l (rd l (j : Int))) (j : Int) := by
 obtain ⟨M, hM, ⟨q, q1, q2⟩, r2⟩ := Max_ev h0 hl
 have e : M = rd l (j : Int) := by
  have a := r2 j hj.1
  have b := hj.2.1 q q1
  omega
 subst e
 obtain ⟨j', hE, h1, h2, h3⟩ := Index_l0 l hl (rd l (j : Int)) l.length 0 (by omega) (fun q hq => by omega) ⟨j, hj.1, rfl⟩
 have : j' = j := by
  by_cases c : j' < j
  ·have := hj.2.2 j' c; omega
  ·by_cases d : j < j'
   ·exact absurd rfl (h3 j d)
   ·omega
 subst this
 exact ⟨hM, hE⟩

/-- Sure: all others are smaller by the margin. -/
def sure (l : List Int) (g : Int) (b : Nat) : Prop := ∀ q : Nat, q < l.length → q ≠ b → g ≤ rd l (b : Int) - rd l (q : Int)
instance (l : List Int) (g : Int) (b : Nat) : Decidable (sure l g b) := by unfold sure; infer_instance
/-- The two greatest of a sorted list tell it. -/
theorem sorted_sure {l s : List Int} (hp : s.Perm l) (hs : s.Pairwise (fun a b => a ≤ b)) (h2 : 2 ≤ l.length) (g : Int) {b : Nat} (hj : FM l b) : (g ≤ rd s ((l.length - 1 : Nat) : Int) - rd s ((l.length - 2 : Nat) : Int)) ↔ sure l g b := by
 have hlen := hp.length_eq
 have hsn : s ≠ [] := by intro e; rw [e] at hlen; simp at hlen; omega
 obtain ⟨M, hM⟩ : ∃ M, M = s.getLast hsn := ⟨_, rfl⟩
 obtain ⟨s', hs'⟩ : ∃ s', s' = s.dropLast := ⟨_, rfl⟩
 have es : s = s' ++ [M] := by rw [hM, hs']; exact (List.dropLast_concat_getLast hsn).symm
 have ls' : s'.length = l.length - 1 := by have := congrArg List.length es; simp at this; omega
 have hw := hs
 rw [es, List.pairwise_append] at hw
 obtain ⟨w1, _, w3⟩ := hw
 -- the parts of l
 obtain ⟨B, hB⟩ : ∃ B, B = rd l (b : Int) := ⟨_, rfl⟩
 have el : l = l.take b ++ B :: l.drop (b + 1) := by
  conv => lhs; rw [← List.take_append_drop b l]
  rw [drop_rd hj.1, hB]
 have hall : ∀ x ∈ l, x ≤ B := by
  intro x hx
  obtain ⟨q, q1, rfl⟩ := mem_rdi hx
  rw [hB]; exact hj.2.1 q q1
 have hBM : B = M := by
  have a : M ∈ l := hp.mem_iff.1 (by rw [es]; simp)
  have c : B ∈ s := hp.mem_iff.2 (by rw [hB]; exact rdi_mem hj.1)
  have d : B ≤ M := by
   rw [es] at c
   rcases List.mem_append.1 c with c | c
   ·exact w3 B c M (by simp)
   ·rw [List.mem_singleton.1 c]; exact Int.le_refl _
  have := hall M a
  omega
 have hperm : s'.Perm (l.take b ++ l.drop (b + 1)) := by
  have p1 : (M :: s').Perm (s' ++ [M]) := (List.perm_append_comm (l₁ := [M]) (l₂ := s'))
  have p2 : (l.take b ++ B :: l.drop (b + 1)).Perm (B :: (l.take b ++ l.drop (b + 1))) := List.perm_middle
  rw [← el] at p2
  rw [← es] at p1
  have p3 := (p1.trans hp).trans p2
  rw [hBM] at p3
  exact p3.cons_inv
 have hM2 : rd s ((l.length - 1 : Nat) : Int) = M := by
  rw [rd_nat, es, ← ls']
  simp [List.getD_eq_getElem?_getD]
 have hs'n : s' ≠ [] := by intro e; rw [e] at ls'; simp at ls'; omega
 have hL : rd s ((l.length - 2 : Nat) : Int) = s'.getLast hs'n := by
  rw [rd_nat, es, List.getD_eq_getElem?_getD, List.getElem?_append_left (by omega), List.getLast_eq_getElem, List.getElem?_eq_getElem (by omega)]
  simp only [Option.getD_some]
  congr 1; omega
 have hmax : ∀ x ∈ s', x ≤ s'.getLast hs'n := by
  intro x hx
  have e2 := (List.dropLast_concat_getLast hs'n).symm
  have hw2 := w1
  rw [e2, List.pairwise_append] at hw2
  rw [e2] at hx
  rcases List.mem_append.1 hx with hx | hx
  ·exact hw2.2.2 x hx _ (by simp)
  ·rw [List.mem_singleton.1 hx]; exact Int.le_refl _
 rw [hM2, hL]
 constructor
 ·intro hg q hq hqb
  have hx : rd l (q : Int) ∈ l.take b ++ l.drop (b + 1) := by
   rw [List.mem_append]
   by_cases c : q < b
   ·left
    have : rd (l.take b) (q : Int) = rd l (q : Int) := by
     rw [rd_nat, rd_nat, List.getD_eq_getElem?_getD, List.getD_eq_getElem?_getD, List.getElem?_take, if_pos c]
    rw [← this]
    exact rdi_mem (by rw [List.length_take]; omega)
   ·right
    have : rd (l.drop (b + 1)) ((q - (b + 1) : Nat) : Int) = rd l (q : Int) := by
     rw [rd_nat, rd_nat, List.getD_eq_getElem?_getD, List.getD_eq_getElem?_getD, List.getElem?_drop, show b + 1 + (q - (b + 1)) = q by omega]
    rw [← this]
    exact rdi_mem (by rw [List.length_drop]; omega)
  have := hmax _ (hperm.mem_iff.2 hx)
  rw [← hB, hBM]; omega
 ·intro hsu
  have hm := hperm.mem_iff.1 (List.getLast_mem hs'n)
  have hq : ∃ q : Nat, q < l.length ∧ q ≠ b ∧ rd l (q : Int) = s'.getLast hs'n := by
   rcases List.mem_append.1 hm with hm | hm
   ·obtain ⟨q, q1, q2⟩ := mem_rdi hm
    rw [List.length_take] at q1
    refine ⟨q, by omega, by omega, ?_⟩
    rw [← q2, rd_nat, rd_nat, List.getD_eq_getElem?_getD, List.getD_eq_getElem?_getD, List.getElem?_take, if_pos (by omega)]
   ·obtain ⟨q, q1, q2⟩ := mem_rdi hm
    rw [List.length_drop] at q1
    refine ⟨b + 1 + q, by omega, by omega, ?_⟩
    rw [← q2, rd_nat, rd_nat, List.getD_eq_getElem?_getD, List.getD_eq_getElem?_getD, List.getElem?_drop]
  obtain ⟨q, q1, q2, q3⟩ := hq
  have := hsu q q1 q2
  rw [← hB, hBM, q3] at this
  exact this
def mgE (g : Int) : Int := if 1 ≤ g ∧ g ≤ 100000 then 0 else 2
theorem TIsSure_ev (l : List S126) (hl : l.length < 4611686018427387904) (g : Int) {b : Nat} (hj : FM (scL l) b) : Ev (fun k => L_IsSure.f k l g) (if ssE l = 0 then (if mgE g = 0 then (decide (sure (scL l) g b), 0) else (false, 2)) else (false, ssE l)) := by
 unfold L_IsSure.f
 refine Ev.bind (sightsErr_ev l hl) ?_
 simp only [within_eq, unless_eq, Option.bind_some, decide_eq_true_eq]
 refine Ev.bind (first_ev _ (by simp)) ?_
 by_cases h : ssE l = 0
 ·unfold mgE
  by_cases hm : 1 ≤ g ∧ g ≤ 100000
  ·obtain ⟨h1, h2, h3⟩ := sights_ok h
   simp only [h, hm, and_self, if_true, fnz]
   refine Ev.bind (scores_ev h2 h3) ?_
   have hlen := scL_len l
   have hs : slices_Sort_int_int.f (scL l) = some ((scL l).mergeSort fun x y => decide (x ≤ y)) := by
    unfold slices_Sort_int_int.f
    rw [if_pos (by rw [hlen]; omega)]
   have hp := List.mergeSort_perm (scL l) (fun x y : Int => decide (x ≤ y))
   have hw : ((scL l).mergeSort fun x y => decide (x ≤ y)).Pairwise (fun a b => a ≤ b) := by
    have := List.pairwise_mergeSort (le := fun x y : Int => decide (x ≤ y)) (fun a b c h1 h2 => by simp only [decide_eq_true_eq] at *; omega) (fun a b => by simp only [Bool.or_eq_true, decide_eq_true_eq]; omega) (scL l)
    exact this.imp (fun h => by simpa using h)
   have hss := sorted_sure hp hw (by rw [hlen]; omega) g hj
   rw [hlen] at hss
   have hb := scL_in h2 h3
   have hl2 := hp.length_eq
   rw [hlen] at hl2
   have r1 := hb _ (hp.mem_iff.1 (rdi_mem (l := (scL l).mergeSort fun x y => decide (x ≤ y)) (i := 23) (by omega)))
   have r2 := hb _ (hp.mem_iff.1 (rdi_mem (l := (scL l).mergeSort fun x y => decide (x ≤ y)) (i := 22) (by omega)))
   simp only [hs, Option.bind_some, hlen, show wrap64 (((24 : Nat) : Int) - 1) = ((23 : Nat) : Int) from w64 (by omega), show wrap64 (((23 : Nat) : Int) - 1) = ((22 : Nat) : Int) from w64 (by omega), show (0 : Int) ≤ ((23 : Nat) : Int) by omega, show ((23 : Nat) : Int) < ((24 : Nat) : Int) by omega, show (0 : Int) ≤ ((22 : Nat) : Int) by omega, show ((22 : Nat) : Int) < ((24 : Nat) : Int) by omega, if_true]
   rw [w64 (by omega)]
   have e : decide (rd ((scL l).mergeSort fun x y => decide (x ≤ y)) ((23 : Nat) : Int) - rd ((scL l).mergeSort fun x y => decide (x ≤ y)) ((22 : Nat) : Int) ≥ g) = decide (sure (scL l) g b) := by
    rw [decide_eq_decide]; exact hss
   rw [e]
   exact Ev.some
  ·simp only [h, hm, if_true, if_false, fnz, show ¬ (2 : Int) = 0 by decide]; exact Ev.some
 ·simp only [h, if_false, fnz]; exact Ev.some
theorem ScoresOf_ev (l : List S126) (hl : l.length < 4611686018427387904) : Ev (fun k => L_ScoresOf.f k l) (if ssE l = 0 then (scL l, 0) else ([], ssE l)) := by
 unfold L_ScoresOf.f
 refine Ev.bind (sightsErr_ev l hl) ?_
 by_cases h : ssE l = 0
 ·obtain ⟨h1, h2, h3⟩ := sights_ok h
  simp only [h, if_true]
  exact Ev.bind (scores_ev h2 h3) Ev.some
 ·simp only [h, if_false]; exact Ev.some
theorem PointingOf_ev (l : List S126) (hl : l.length < 4611686018427387904) {b : Nat} (hj : FM (scL l) b) : Ev (fun k => L_PointingOf.f k l) (if ssE l = 0 then ((b : Int), rd (scL l) (b : Int), 0) else (0, 0, ssE l)) := by
 unfold L_PointingOf.f
 refine Ev.bind (sightsErr_ev l hl) ?_
 by_cases h : ssE l = 0
 ·obtain ⟨h1, h2, h3⟩ := sights_ok h
  have hlen := scL_len l
  obtain ⟨m1, m2⟩ := MaxIndex_ev (l := scL l) (by omega) (by omega) hj
  simp only [h, if_true]
  refine Ev.bind (scores_ev h2 h3) ?_
  refine Ev.bind m1 ?_
  exact Ev.bind m2 Ev.some
 ·simp only [h, if_false]; exact Ev.some
theorem awake_ev : Ev (fun k => Lw_awake.f k) true :=
 Ev.of_mono (k := 1500) (fun k => Lw_awake.mono k) (by kernel_rfl)
theorem rd44_drop {l : List S44} {i : Nat} (h : i < l.length) : l.drop i = rd_T44 l (i : Int) :: l.drop (i + 1) := by
 rw [drop_getD z44 h]; rfl
/-- Each row has one number that is not 0. -/
def okRow (v : S137) : Bool := un3 v && (v.f0 * v.f0 + v.f1 * v.f1 + v.f2 * v.f2 == 1)
theorem rot_rows (i : Nat) (h : i < 24) : okRow (rd_T139 rotL (i : Int)).f0 = true ∧ okRow (rd_T139 rotL (i : Int)).f1 = true ∧ okRow (rd_T139 rotL (i : Int)).f2 = true := by
 have h2 : i < rotL.length := by rw [rotL_len]; exact h
 have hall : rotL.all (fun m => okRow m.f0 && (okRow m.f1 && okRow m.f2)) = true := by kernel_rfl
 have hm : rd_T139 rotL (i : Int) ∈ rotL := by
  unfold rd_T139
  simp only [Int.toNat_natCast, List.getD_eq_getElem?_getD, List.getElem?_eq_getElem h2, Option.getD_some]
  exact List.getElem_mem h2
 have := List.all_eq_true.1 hall _ hm
 simpa only [Bool.and_eq_true] using this
theorem row_in {v : S137} (h : okRow v = true) {a b c : Int} (hd : dirOK a b c) : -20 ≤ dot3 v.f0 v.f1 v.f2 a b c ∧ dot3 v.f0 v.f1 v.f2 a b c ≤ 20 := by
 unfold okRow un3 at h
 simp only [Bool.and_eq_true, beq_iff_eq] at h
 obtain ⟨⟨⟨h0, h1⟩, h2⟩, h3⟩ := h
 obtain ⟨d0, d1, d2⟩ := hd
 unfold dot3
 rcases un_in h0 with e0 | e0 | e0 <;> rcases un_in h1 with e1 | e1 | e1 <;> rcases un_in h2 with e2 | e2 | e2 <;> rw [e0, e1, e2] at h3 <;> rw [e0, e1, e2] <;> omega
/-- A sight of a direction that is seen turned by a rotation. -/
def mk (m : S139) (v : S44) : S126 := ⟨v, ⟨(trn m v.f0 v.f1 v.f2).1, (trn m v.f0 v.f1 v.f2).2.1, (trn m v.f0 v.f1 v.f2).2.2⟩⟩
def sq (v : S44) : Int := dot3 v.f0 v.f1 v.f2 v.f0 v.f1 v.f2
def sqs : List S44 → Int
 | [] => 0
 | v :: r => sq v + sqs r
theorem mk_ok {i : Nat} (hi : i < 24) {v : S44} (hd : dS v) (hz : nzS v) : stE (mk (rd_T139 rotL (i : Int)) v) = 0 := by
 obtain ⟨r0, r1, r2⟩ := rot_rows i hi
 have ho := rot_ok i hi
 have hseen : dS (mk (rd_T139 rotL (i : Int)) v).f1 := ⟨row_in r0 hd, row_in r1 hd, row_in r2 hd⟩
 have hnz : nzS (mk (rd_T139 rotL (i : Int)) v).f1 := by
  intro hc
  have he : trn (rd_T139 rotL (i : Int)) v.f0 v.f1 v.f2 = trn (rd_T139 rotL (i : Int)) 0 0 0 := by
   have e0 : trn (rd_T139 rotL (i : Int)) 0 0 0 = (0, 0, 0) := by unfold trn dot3; simp
   rw [e0]
   exact Prod.ext hc.1 (Prod.ext hc.2.1 hc.2.2)
  exact hz (trn_inj ho he)
 unfold stE
 rw [if_pos ⟨hd, hseen⟩, if_pos ⟨hz, hnz⟩]
theorem sq_in {v : S44} (hd : dS v) : (0 ≤ v.f0 * v.f0 ∧ v.f0 * v.f0 ≤ 400) ∧ (0 ≤ v.f1 * v.f1 ∧ v.f1 * v.f1 ≤ 400) ∧ (0 ≤ v.f2 * v.f2 ∧ v.f2 * v.f2 ≤ 400) := by
 have h : ∀ x : Int, (-20 ≤ x ∧ x ≤ 20) → 0 ≤ x * x ∧ x * x ≤ 400 := fun x hx => by
  have h1 : (x * x).natAbs ≤ 20 * 20 := by rw [Int.natAbs_mul]; exact Nat.mul_le_mul (by omega) (by omega)
  have h2 : 0 ≤ x * x := by
   by_cases c : 0 ≤ x
   ·exact Int.mul_nonneg c c
   ·have := Int.mul_nonneg (show 0 ≤ -x by omega) (show 0 ≤ -x by omega)
    rw [Int.neg_mul_neg] at this; exact this
  omega
 exact ⟨h _ hd.1, h _ hd.2.1, h _ hd.2.2⟩
/-- The score of a rotation is at most the sum of squares; that of its own is. -/
theorem cs_core (a b c d e f : Int) : 2 * (a * d + b * e + c * f) ≤ (a * a + b * b + c * c) + (d * d + e * e + f * f) := by
 have h : ∀ x : Int, 0 ≤ x * x := fun x => by
  by_cases c : 0 ≤ x
  ·exact Int.mul_nonneg c c
  ·have := Int.mul_nonneg (show 0 ≤ -x by omega) (show 0 ≤ -x by omega)
   rw [Int.neg_mul_neg] at this; exact this
 have h1 := h (a - d); have h2 := h (b - e); have h3 := h (c - f)
 have e1 : (a - d) * (a - d) + (b - e) * (b - e) + (c - f) * (c - f) = (a * a + b * b + c * c) + (d * d + e * e + f * f) - 2 * (a * d + b * e + c * f) := by grind
 omega
theorem dt_le {m m' : S139} (hm : okM m = true) (hm' : okM m' = true) (v : S44) : dt m' (mk m v) ≤ sq v := by
 have h1 := trn_keep hm v.f0 v.f1 v.f2 v.f0 v.f1 v.f2
 have h2 := trn_keep hm' v.f0 v.f1 v.f2 v.f0 v.f1 v.f2
 have h3 := cs_core (trn m v.f0 v.f1 v.f2).1 (trn m v.f0 v.f1 v.f2).2.1 (trn m v.f0 v.f1 v.f2).2.2 (trn m' v.f0 v.f1 v.f2).1 (trn m' v.f0 v.f1 v.f2).2.1 (trn m' v.f0 v.f1 v.f2).2.2
 unfold dt mk sq
 unfold dot3 at h1 h2 ⊢
 simp only [] at h1 h2 h3 ⊢
 rw [h1, h2] at h3
 omega
theorem dt_self {m : S139} (hm : okM m = true) (v : S44) : dt m (mk m v) = sq v := trn_keep hm v.f0 v.f1 v.f2 v.f0 v.f1 v.f2
theorem scr_le {m m' : S139} (hm : okM m = true) (hm' : okM m' = true) : ∀ r : List S44, scr m' (r.map (mk m)) ≤ sqs r
 | [] => by simp [scr, sqs]
 | v :: r => by
  have ih := scr_le hm hm' r
  have := dt_le hm hm' v
  simp only [List.map_cons, scr, sqs]; omega
theorem scr_self {m : S139} (hm : okM m = true) : ∀ r : List S44, scr m (r.map (mk m)) = sqs r
 | [] => rfl
 | v :: r => by
  simp only [List.map_cons, scr, sqs, scr_self hm r, dt_self hm v]
theorem sc_rd (l : List S126) {p : Nat} (hp : p < 24) : rd (scL l) (p : Int) = scr (rd_T139 rotL (p : Int)) l := by
 have h2 : p < rotL.length := by rw [rotL_len]; exact hp
 rw [rd_nat]
 unfold scL rd_T139
 simp [List.getD_eq_getElem?_getD, h2]
theorem Seen_l1 (s : List Int) (hs : s.length = 24) (M : Int) (hall : ∀ q : Nat, q < 24 → rd s (q : Int) ≤ M) : ∀ (n i : Nat), i + n = 24 → Ev (fun k => Lw_TargetSeen.l1 k M s (i : Int)) true
 | 0, i, h => by
  refine Ev.succ (f := fun k => Lw_TargetSeen.l1 k M s (i : Int)) ?_
  simp only [Lw_TargetSeen.l1, hs, show ¬ (i : Int) < ((24 : Nat) : Int) by omega, if_false]
  exact Ev.some
 | n + 1, i, h => by
  refine Ev.succ (f := fun k => Lw_TargetSeen.l1 k M s (i : Int)) ?_
  have := hall i (by omega)
  simp only [Lw_TargetSeen.l1, hs, show (i : Int) < ((24 : Nat) : Int) by omega, show (0 : Int) ≤ (i : Int) by omega, if_true, show ¬ rd s (i : Int) > M by omega, if_false, up (show i < 4611686018427387904 by omega)]
  exact Seen_l1 s hs M hall n (i + 1) (by omega)
theorem sqs_append : ∀ a b : List S44, sqs (a ++ b) = sqs a + sqs b
 | [], b => by simp [sqs]
 | v :: r, b => by simp only [List.cons_append, sqs, sqs_append r b]; omega
theorem Seen_l0 (l : List S44) (h1 : 1 ≤ l.length) (hl : l.length ≤ 8) (x : Nat) (hx : x < 24) : ∀ (n i : Nat), i + n = l.length → (∀ v ∈ l.take i, dS v ∧ nzS v) → (0 ≤ sqs (l.take i) ∧ sqs (l.take i) ≤ 1200 * (i : Int)) →
  Ev (fun k => Lw_TargetSeen.l0 k l (x : Int) ((l.take i).map (mk (rd_T139 rotL (x : Int)))) (sqs (l.take i)) (i : Int)) true
 | 0, i, h, hk, hs => by
  refine Ev.succ (f := fun k => Lw_TargetSeen.l0 k l (x : Int) ((l.take i).map (mk (rd_T139 rotL (x : Int)))) (sqs (l.take i)) (i : Int)) ?_
  rw [show l.take i = l from List.take_of_length_le (by omega)] at hk ⊢
  obtain ⟨L, hL⟩ : ∃ L, L = l.map (mk (rd_T139 rotL (x : Int))) := ⟨_, rfl⟩
  have hLl : L.length = l.length := by rw [hL, List.length_map]
  have ho := rot_ok x hx
  rw [← hL]
  have hE : ssE L = 0 := by
   unfold ssE
   rw [if_neg (by omega), if_neg (by omega), fnz_zero]
   intro y hy
   obtain ⟨t, ht, rfl⟩ := List.mem_map.1 hy
   rw [hL] at ht
   obtain ⟨v, hv, rfl⟩ := List.mem_map.1 ht
   exact mk_ok hx (hk v hv).1 (hk v hv).2
  have hlen := scL_len L
  have hxs : rd (scL L) (x : Int) = sqs l := by rw [sc_rd L hx, hL]; exact scr_self ho l
  have hle : ∀ q : Nat, q < 24 → rd (scL L) (q : Int) ≤ sqs l := by
   intro q hq
   rw [sc_rd L hq, hL]; exact scr_le ho (rot_ok q hq) l
  obtain ⟨j, hj, _⟩ := Pointing_ev (l := scL L) (by omega) (by omega)
  have hjM : rd (scL L) (j : Int) = sqs l := by
   have a := hj.2.1 x (by omega)
   have b := hle j (by have := hj.1; omega)
   omega
  have hjx : j ≤ x := by
   by_cases c : x < j
   ·have := hj.2.2 x c; omega
   ·omega
  simp only [Lw_TargetSeen.l0, show ¬ (i : Int) < (l.length : Int) by omega, if_false]
  refine Ev.bind (SightsErr_ev L (by omega)) ?_
  simp only [hE, if_true, CopySights_eq L (by omega), Option.bind_some]
  refine Ev.bind (ScoresOf_ev L (by omega)) ?_
  refine Ev.bind (PointingOf_ev L (by omega) hj) ?_
  refine Ev.bind (TIsSure_ev L (by omega) 1 hj) ?_
  have hm1 : mgE 1 = 0 := rfl
  simp only [hE, hm1, if_true, hlen, eq_true (show ((24 : Nat) : Int) = 24 by rfl), show (0 : Int) ≤ (x : Int) by omega, show (x : Int) < ((24 : Nat) : Int) by omega, hxs, hjM, show ¬ (j : Int) > (x : Int) by omega, if_false, decide_eq_true_eq]
  have hj3 : Ev (fun k => Lw_TargetSeen.j3 k (sqs l) (scL L) false) true := by
   refine Ev.succ (f := fun k => Lw_TargetSeen.j3 k (sqs l) (scL L) false) ?_
   simp only [Lw_TargetSeen.j3, Bool.false_eq_true, if_false]
   exact Seen_l1 (scL L) hlen (sqs l) hle 24 0 (by omega)
  by_cases hsu : sure (scL L) 1 j
  ·have : j = x := by
    by_cases c : x = j
    ·exact c.symm
    ·have := hsu x (by omega) c
     omega
   subst this
   simp only [hsu, if_true, bne_self_eq_false]
   exact hj3
  ·simp only [hsu, if_false]
   exact hj3
 | n + 1, i, h, hk, hs => by
  refine Ev.succ (f := fun k => Lw_TargetSeen.l0 k l (x : Int) ((l.take i).map (mk (rd_T139 rotL (x : Int)))) (sqs (l.take i)) (i : Int)) ?_
  have hi : i < l.length := by omega
  obtain ⟨v, hv⟩ : ∃ v, v = rd_T44 l (i : Int) := ⟨_, rfl⟩
  have hx24 : idx24 (x : Int) := ⟨by omega, by omega⟩
  have htake : l.take (i + 1) = l.take i ++ [v] := by
   have := rd44_drop hi
   rw [← hv] at this
   rw [List.take_succ_eq_append_getElem hi]
   congr 1
   have h2 : l.drop i = l[i] :: l.drop (i + 1) := List.drop_eq_getElem_cons hi
   rw [this] at h2
   simp only [List.cons.injEq] at h2
   rw [h2.1]
  have hT : Ev (fun k => Lw_TargetSeen.j2 k l (x : Int) ((l.take i).map (mk (rd_T139 rotL (x : Int)))) (sqs (l.take i)) (i : Int) true) true := by
   refine Ev.succ (f := fun k => Lw_TargetSeen.j2 k l (x : Int) ((l.take i).map (mk (rd_T139 rotL (x : Int)))) (sqs (l.take i)) (i : Int) true) ?_
   simp only [Lw_TargetSeen.j2, if_true]; exact Ev.some
  simp only [Lw_TargetSeen.l0, show (i : Int) < (l.length : Int) by omega, show (0 : Int) ≤ (i : Int) by omega, if_true, ← hv]
  refine Ev.bind (TurnedErr_ev _ _ _ _) ?_
  by_cases hd : dirOK v.f0 v.f1 v.f2
  ·simp only [hx24, hd, and_self, if_true, z_b]
   by_cases hz : nzS v
   ·simp only [hz, decide_true, Bool.not_true]
    refine Ev.succ (f := fun k => Lw_TargetSeen.j2 k l (x : Int) ((l.take i).map (mk (rd_T139 rotL (x : Int)))) (sqs (l.take i)) (i : Int) false) ?_
    simp only [Lw_TargetSeen.j2, Bool.false_eq_true, if_false, show (i : Int) < (l.length : Int) by omega, show (0 : Int) ≤ (i : Int) by omega, if_true, ← hv]
    refine Ev.bind (TurnedBy_ev _ _ _ _) ?_
    unfold tby
    rw [if_pos ⟨hx24, hd⟩]
    obtain ⟨q0, q1, q2⟩ := sq_in (v := v) hd
    have hsv : sq v = v.f0 * v.f0 + v.f1 * v.f1 + v.f2 * v.f2 := rfl
    have hst : sqs (l.take (i + 1)) = sqs (l.take i) + sq v := by rw [htake, sqs_append]; simp [sqs]
    have hmp : (l.take (i + 1)).map (mk (rd_T139 rotL (x : Int))) = (l.take i).map (mk (rd_T139 rotL (x : Int))) ++ [mk (rd_T139 rotL (x : Int)) v] := by rw [htake]; simp
    have ih := Seen_l0 l h1 hl x hx n (i + 1) (by omega) (by
     rw [htake]
     intro y hy
     rcases List.mem_append.1 hy with hy | hy
     ·exact hk y hy
     ·rw [List.mem_singleton.1 hy]; exact ⟨hd, hz⟩) (by rw [hst]; omega)
    rw [hst, hmp, hsv] at ih
    simp only [if_true, List.length_map, List.length_take, show min i l.length < 2932031007402 by omega, up (show i < 4611686018427387904 by omega), w64 (n := v.f0 * v.f0) (by omega), w64 (n := v.f1 * v.f1) (by omega), w64 (n := v.f2 * v.f2) (by omega)]
    rw [w64 (n := sqs (l.take i) + v.f0 * v.f0) (by omega), w64 (n := sqs (l.take i) + v.f0 * v.f0 + v.f1 * v.f1) (by omega), w64 (n := sqs (l.take i) + v.f0 * v.f0 + v.f1 * v.f1 + v.f2 * v.f2) (by omega)]
    rw [show sqs (l.take i) + (v.f0 * v.f0 + v.f1 * v.f1 + v.f2 * v.f2) = sqs (l.take i) + v.f0 * v.f0 + v.f1 * v.f1 + v.f2 * v.f2 by omega] at ih
    exact ih
   ·simp only [hz, decide_false, Bool.not_false]
    exact hT
  ·simp only [hd, and_false, if_false, show ¬ (2 : Int) = 0 by decide]
   exact hT
theorem TargetSeen_ev (l : List S44) (x : Int) : Ev (fun k => Lw_TargetSeen.f k l x) true := by
 unfold Lw_TargetSeen.f
 refine Ev.bind awake_ev ?_
 simp only [if_true]
 have hT : Ev (fun k => Lw_TargetSeen.j0 k l x true) true := by
  refine Ev.succ (f := fun k => Lw_TargetSeen.j0 k l x true) ?_
  simp only [Lw_TargetSeen.j0, if_true]; exact Ev.some
 by_cases h0 : (l.length : Int) = 0
 ·simp only [h0, if_true]; exact hT
 ·by_cases h8 : (l.length : Int) > 8
  ·simp only [h0, h8, if_true, if_false]; exact hT
  ·simp only [h0, h8, if_false, Within_eq, Option.bind_some]
   by_cases hx : 0 ≤ x ∧ x ≤ 23
   ·simp only [hx, and_self, decide_true, Bool.not_true]
    obtain ⟨n, rfl⟩ : ∃ n : Nat, x = (n : Int) := ⟨x.toNat, by omega⟩
    refine Ev.succ (f := fun k => Lw_TargetSeen.j0 k l (n : Int) false) ?_
    simp only [Lw_TargetSeen.j0, Bool.false_eq_true, if_false]
    exact Seen_l0 l (by omega) (by omega) n (by omega) l.length 0 (by omega) (fun v hv => by simp at hv) (by simp [sqs])
   ·simp only [hx, decide_false, Bool.not_false]; exact hT
theorem TargetSeen_pure (l : List S44) (_ : l.length ≤ maxLen ∧ ∀ x ∈ l, (Lit.int .i64 x.f0).wf = true ∧ (Lit.int .i64 x.f1).wf = true ∧ (Lit.int .i64 x.f2).wf = true) (x : Int) (_ : (Lit.int .i64 x).wf = true) :
  ∃ k, Lw_TargetSeen.f k l x = some true := (TargetSeen_ev l x).ex
end Go.Proofs.Ytibhfahbabgbaaa.P
