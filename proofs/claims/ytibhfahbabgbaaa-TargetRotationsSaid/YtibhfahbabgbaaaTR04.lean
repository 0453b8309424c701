/-
PLAIN LAW: what the walks compute answers as the statement says (no program in sight; Ev: from some number of rounds on).
-/
import Derived.Test.YtibhfahbabgbaaaB05
import Derived.Test.YtibhfahbabgbaaaTR01
import Derived.Test.YtibhfahbabgbaaaTR03
import Derived.Test.YtibhfahbabgbaaaB16
import Derived.Test.YtibhfahbabgbaaaTR02
import Derived.Test.YtibhfahbabgbaaaB12
import Derived.Test.YtibhfahbabgbaaaB14
import Derived.Test.YtibhfahbabgbaaaB13
namespace Go.Proofs.Ytibhfahbabgbaaa.P
open Go Go.RowKit Go.Proofs.Ytibhfahbabgbaaa.A Go.Proofs.YtibhfahbabgbaaaW.PrintWords Go.Proofs.YtibhfahbabgbaaaW.PrintLast Go.Proofs.YtibhfahbabgbaaaW.PrintMore
set_option linter.unusedSimpArgs false
set_option linter.unusedVariables false
/-- From some number of rounds on, f says r. -/
def Ev {α : Type} (f : Nat → Option α) (r : α) : Prop := ∃ k, ∀ j, k ≤ j → f j = some r

theorem Ev.some {α : Type} {r : α} : Ev (fun _ => Option.some r) r := ⟨0, fun _ _ => rfl⟩
theorem Ev.bind {α β : Type} {f : Nat → Option α} {g : Nat → α → Option β} {a : α} {b : β} (h : Ev f a) (h2 : Ev (fun k => g k a) b) : Ev (fun k => (f k).bind (g k)) b := by
 obtain ⟨k, hk⟩ := h
 obtain ⟨m, hm⟩ := h2
 exact ⟨max k m, fun j hj => by show (f j).bind (g j) = _; rw [hk j (by omega)]; exact hm j (by omega)⟩
theorem Ev.succ {α : Type} {f : Nat → Option α} {r : α} (h : Ev (fun k => f (k + 1)) r) : Ev f r := by
 obtain ⟨k, hk⟩ := h
 exact ⟨k + 1, fun j hj => by obtain ⟨m, rfl⟩ : ∃ m, j = m + 1 := ⟨j - 1, by omega⟩; exact hk m (by omega)⟩
theorem Ev.ex {α : Type} {f : Nat → Option α} {r : α} (h : Ev f r) : ∃ k, f k = Option.some r := let ⟨k, hk⟩ := h; ⟨k, hk k (Nat.le_refl _)⟩
theorem Ev.of_mono {α : Type} {f : Nat → Option α} {r : α} (hm : ∀ k, LeO (f k) (f (k + 1))) {k : Nat} (h : f k = Option.some r) : Ev f r := by
  refine ⟨k, fun j hj => ?_⟩
  induction j with
  | zero => obtain rfl : k = 0 := by omega
            exact h
  | succ j ih =>
    by_cases e : k = j + 1
    · subst e; exact h
    · exact hm j r (ih (by omega))
theorem up {i : Nat} (h : i < 4611686018427387904) : wrap64 ((i : Int) + 1) = ((i + 1 : Nat) : Int) := by
 unfold wrap64; omega
theorem w64 {n : Int} (h : -9223372036854775808 ≤ n ∧ n ≤ 9223372036854775807) : wrap64 n = n := by unfold wrap64; omega
theorem rd_nat (l : List Int) (i : Nat) : rd l (i : Int) = l.getD i 0 := by unfold rd; simp
theorem drop_rd {l : List Int} {i : Nat} (h : i < l.length) : l.drop i = rd l (i : Int) :: l.drop (i + 1) := by
 rw [rd_nat, List.drop_eq_getElem_cons h]
 simp [List.getD_eq_getElem?_getD, h]
theorem within_eq (a b c : Int) : L_within.f a b c = some (decide (b ≤ a ∧ a ≤ c)) := by
 unfold L_within.f
 by_cases h : b ≤ a <;> simp [h]
theorem Within_eq (a b c : Int) : Bs_Within.f a b c = some (decide (b ≤ a ∧ a ≤ c)) := by
 unfold Bs_Within.f
 by_cases h : b ≤ a <;> simp [h]
theorem unless_eq (b : Bool) (e : Int) : L_unless.f b e = some (if b = true then 0 else e) := by
 unfold L_unless.f
 cases b <;> simp
/-- The first number that is not 0. -/
def fnz : List Int → Int
 | [] => 0
 | x :: r => if x = 0 then fnz r else x

theorem first_l0 (l : List Int) (hl : l.length < 4611686018427387904) : ∀ (n i : Nat), i + n = l.length → Ev (fun k => L_first.l0 k l (l.length : Int) (i : Int)) (fnz (l.drop i))
 | 0, i, h => by
  refine Ev.succ (f := fun k => L_first.l0 k l (l.length : Int) (i : Int)) ?_
  have h1 : ¬ (i : Int) < (l.length : Int) := by omega
  simp only [L_first.l0, h1, if_false]
  rw [show l.drop i = [] from List.drop_eq_nil_of_le (by omega)]
  exact Ev.some
 | n + 1, i, h => by
  refine Ev.succ (f := fun k => L_first.l0 k l (l.length : Int) (i : Int)) ?_
  have h1 : (i : Int) < (l.length : Int) := by omega
  have h2 : (0 : Int) ≤ (i : Int) := by omega
  simp only [L_first.l0, h1, h2, if_true, up (show i < 4611686018427387904 by omega)]
  rw [drop_rd (show i < l.length by omega)]
  unfold fnz
  by_cases e : rd l (i : Int) = 0
  ·simp only [e, if_true]
   exact first_l0 l hl n (i + 1) (by omega)
  ·simp only [e, if_false]
   exact Ev.some
theorem first_ev (l : List Int) (hl : l.length < 4611686018427387904) : Ev (fun k => L_first.f k l) (fnz l) := first_l0 l hl l.length 0 (by omega)

/-- The greatest common divisor of three numbers. -/
def g3 (s o d : Int) : Nat := Nat.gcd (Nat.gcd s.natAbs o.natAbs) d.natAbs
def rotL : List S139 := (L_rotations.f 100).getD []
theorem rotations_ev : Ev (fun k => L_rotations.f k) rotL := Ev.of_mono (k := 100) (fun k => L_rotations.mono k) (by kernel_rfl)
def cv1 (v : S137) : S44 := ⟨v.f0, v.f1, v.f2⟩
def cv (m : S139) : S45 := ⟨cv1 m.f0, cv1 m.f1, cv1 m.f2⟩
theorem Rotations_ev : Ev (fun k => Rf_Rotations.f k) (rotL.map cv) := Ev.of_mono (k := 100) (fun k => Rf_Rotations.mono k) (by kernel_rfl)
theorem rotL_len : rotL.length = 24 := by kernel_rfl
theorem rd_cv (i : Nat) (h : i < 24) : rd_T45 (rotL.map cv) (i : Int) = cv (rd_T139 rotL (i : Int)) := by
 have h2 : i < rotL.length := by rw [rotL_len]; exact h
 unfold rd_T45 rd_T139
 simp [List.getD_eq_getElem?_getD, h2]
def un (x : Int) : Bool := x == 0 || x == 1 || x == -1
def un3 (v : S137) : Bool := un v.f0 && un v.f1 && un v.f2
def okM (m : S139) : Bool := un3 m.f0 && un3 m.f1 && un3 m.f2 &&
 (m.f0.f0 * m.f0.f0 + m.f1.f0 * m.f1.f0 + m.f2.f0 * m.f2.f0 == 1) && (m.f0.f1 * m.f0.f1 + m.f1.f1 * m.f1.f1 + m.f2.f1 * m.f2.f1 == 1) && (m.f0.f2 * m.f0.f2 + m.f1.f2 * m.f1.f2 + m.f2.f2 * m.f2.f2 == 1) &&
 (m.f0.f0 * m.f0.f1 + m.f1.f0 * m.f1.f1 + m.f2.f0 * m.f2.f1 == 0) && (m.f0.f0 * m.f0.f2 + m.f1.f0 * m.f1.f2 + m.f2.f0 * m.f2.f2 == 0) && (m.f0.f1 * m.f0.f2 + m.f1.f1 * m.f1.f2 + m.f2.f1 * m.f2.f2 == 0)
theorem rot_ok (i : Nat) (h : i < 24) : okM (rd_T139 rotL (i : Int)) = true := by
 have h2 : i < rotL.length := by rw [rotL_len]; exact h
 have hall : rotL.all okM = true := by kernel_rfl
 have hm : rd_T139 rotL (i : Int) ∈ rotL := by
  unfold rd_T139
  simp only [Int.toNat_natCast, List.getD_eq_getElem?_getD, List.getElem?_eq_getElem h2, Option.getD_some]
  exact List.getElem_mem h2
 exact List.all_eq_true.1 hall _ hm
theorem un_in {x : Int} (h : un x = true) : x = 0 ∨ x = 1 ∨ x = -1 := by
 unfold un at h
 simp only [Bool.or_eq_true, beq_iff_eq] at h
 omega
theorem un_mul {x a B : Int} (h : un x = true) (ha : -B ≤ a ∧ a ≤ B) : -B ≤ x * a ∧ x * a ≤ B := by
 rcases un_in h with rfl | rfl | rfl
 ·rw [Int.zero_mul]; omega
 ·rw [Int.one_mul]; omega
 ·rw [Int.neg_mul, Int.one_mul]; omega
/-- A direction with its sum of squares and so on: three numbers of at most 20 in size. -/
def dirOK (a b c : Int) : Prop := (-20 ≤ a ∧ a ≤ 20) ∧ (-20 ≤ b ∧ b ≤ 20) ∧ (-20 ≤ c ∧ c ≤ 20)
instance (a b c : Int) : Decidable (dirOK a b c) := by unfold dirOK; infer_instance
theorem isDir_eq (a b c : Int) : L_isDirection.f a b c = some (decide (dirOK a b c)) := by
 unfold L_isDirection.f dirOK
 by_cases h1 : -20 ≤ a ∧ a ≤ 20 <;> by_cases h2 : -20 ≤ b ∧ b ≤ 20 <;> by_cases h3 : -20 ≤ c ∧ c ≤ 20 <;> simp [h1, h2, h3] <;> omega
theorem IsDir_ev (a b c : Int) : Ev (fun k => Rf_isDirection.f k a b c) (decide (dirOK a b c)) := by
 refine ⟨4, fun j hj => ?_⟩
 obtain ⟨m, rfl⟩ : ∃ m, j = m + 4 := ⟨j - 4, by omega⟩
 unfold Rf_isDirection.f dirOK
 by_cases h1 : -20 ≤ a ∧ a ≤ 20 <;> by_cases h2 : -20 ≤ b ∧ b ≤ 20 <;> by_cases h3 : -20 ≤ c ∧ c ≤ 20 <;>
  simp [Rf_isDirection.l0, Within_eq, h1, h2, h3, w64 (n := 1) (by omega), w64 (n := 2) (by omega), w64 (n := 3) (by omega)]
def idx24 (i : Int) : Prop := 0 ≤ i ∧ i ≤ 23
instance (i : Int) : Decidable (idx24 i) := by unfold idx24; infer_instance
theorem indexErr_eq (i : Int) : L_indexErr.f i = some (if idx24 i then 0 else 2) := by
 unfold L_indexErr.f idx24
 simp only [within_eq, unless_eq, Option.bind_some, decide_eq_true_eq]
def dot3 (a0 a1 a2 b0 b1 b2 : Int) : Int := a0 * b0 + a1 * b1 + a2 * b2
theorem dot_eq (a0 a1 a2 b0 b1 b2 : Int) (A : Int) (h0 : -A ≤ a0 * b0 ∧ a0 * b0 ≤ A) (h1 : -A ≤ a1 * b1 ∧ a1 * b1 ≤ A) (h2 : -A ≤ a2 * b2 ∧ a2 * b2 ≤ A) (hA : A ≤ 1000000000000) :
  wrap64 (wrap64 (wrap64 (a0 * b0) + wrap64 (a1 * b1)) + wrap64 (a2 * b2)) = dot3 a0 a1 a2 b0 b1 b2 := by
 unfold dot3
 rw [w64 (n := a0 * b0) (by omega), w64 (n := a1 * b1) (by omega), w64 (n := a2 * b2) (by omega), w64 (n := a0 * b0 + a1 * b1) (by omega), w64 (by omega)]
/-- A direction turned by a matrix. -/
def trn (m : S139) (a b c : Int) : Int × Int × Int := (dot3 m.f0.f0 m.f0.f1 m.f0.f2 a b c, dot3 m.f1.f0 m.f1.f1 m.f1.f2 a b c, dot3 m.f2.f0 m.f2.f1 m.f2.f2 a b c)
theorem okM_un {m : S139} (h : okM m = true) : (un m.f0.f0 = true ∧ un m.f0.f1 = true ∧ un m.f0.f2 = true) ∧ (un m.f1.f0 = true ∧ un m.f1.f1 = true ∧ un m.f1.f2 = true) ∧ (un m.f2.f0 = true ∧ un m.f2.f1 = true ∧ un m.f2.f2 = true) := by
 unfold okM un3 at h
 simp only [Bool.and_eq_true] at h
 obtain ⟨⟨⟨⟨⟨⟨⟨⟨⟨⟨h0, h1⟩, h2⟩, ⟨h3, h4⟩, h5⟩, ⟨h6, h7⟩, h8⟩, _⟩, _⟩, _⟩, _⟩, _⟩, _⟩ := h
 exact ⟨⟨h0, h1, h2⟩, ⟨h3, h4, h5⟩, ⟨h6, h7, h8⟩⟩
theorem okM_eq {m : S139} (h : okM m = true) :
  m.f0.f0 * m.f0.f0 + m.f1.f0 * m.f1.f0 + m.f2.f0 * m.f2.f0 = 1 ∧ m.f0.f1 * m.f0.f1 + m.f1.f1 * m.f1.f1 + m.f2.f1 * m.f2.f1 = 1 ∧ m.f0.f2 * m.f0.f2 + m.f1.f2 * m.f1.f2 + m.f2.f2 * m.f2.f2 = 1 ∧
  m.f0.f0 * m.f0.f1 + m.f1.f0 * m.f1.f1 + m.f2.f0 * m.f2.f1 = 0 ∧ m.f0.f0 * m.f0.f2 + m.f1.f0 * m.f1.f2 + m.f2.f0 * m.f2.f2 = 0 ∧ m.f0.f1 * m.f0.f2 + m.f1.f1 * m.f1.f2 + m.f2.f1 * m.f2.f2 = 0 := by
 unfold okM at h
 simp only [Bool.and_eq_true, beq_iff_eq] at h
 obtain ⟨⟨⟨⟨⟨⟨_, h1⟩, h2⟩, h3⟩, h4⟩, h5⟩, h6⟩ := h
 exact ⟨h1, h2, h3, h4, h5, h6⟩
theorem row_eq {x y z a b c : Int} (h : un x = true ∧ un y = true ∧ un z = true) (hd : dirOK a b c) : wrap64 (wrap64 (wrap64 (x * a) + wrap64 (y * b)) + wrap64 (z * c)) = dot3 x y z a b c :=
 dot_eq x y z a b c 20 (un_mul h.1 hd.1) (un_mul h.2.1 hd.2.1) (un_mul h.2.2 hd.2.2) (by omega)
theorem turned_eq {m : S139} (hm : okM m = true) {a b c : Int} (hd : dirOK a b c) :
  L_rotation_turned.f m.f0.f0 m.f0.f1 m.f0.f2 m.f1.f0 m.f1.f1 m.f1.f2 m.f2.f0 m.f2.f1 m.f2.f2 a b c = some (trn m a b c) := by
 obtain ⟨h0, h1, h2⟩ := okM_un hm
 unfold L_rotation_turned.f L_vector_dot.f
 rw [row_eq h0 hd, row_eq h1 hd, row_eq h2 hd]; rfl
theorem Turned_eq {m : S139} (hm : okM m = true) {a b c : Int} (hd : dirOK a b c) :
  Rf_Turned.f m.f0.f0 m.f0.f1 m.f0.f2 m.f1.f0 m.f1.f1 m.f1.f2 m.f2.f0 m.f2.f1 m.f2.f2 a b c = some (trn m a b c) := by
 obtain ⟨h0, h1, h2⟩ := okM_un hm
 unfold Rf_Turned.f Rf_dot.f
 rw [row_eq h0 hd, row_eq h1 hd, row_eq h2 hd]; rfl
theorem keep_core (p q r s t u v w z a b c d e f : Int) (c00 : p * p + s * s + v * v = 1) (c11 : q * q + t * t + w * w = 1) (c22 : r * r + u * u + z * z = 1)
  (c01 : p * q + s * t + v * w = 0) (c02 : p * r + s * u + v * z = 0) (c12 : q * r + t * u + w * z = 0) :
  (p * a + q * b + r * c) * (p * d + q * e + r * f) + (s * a + t * b + u * c) * (s * d + t * e + u * f) + (v * a + w * b + z * c) * (v * d + w * e + z * f) = a * d + b * e + c * f := by
 have e1 : (p * a + q * b + r * c) * (p * d + q * e + r * f) + (s * a + t * b + u * c) * (s * d + t * e + u * f) + (v * a + w * b + z * c) * (v * d + w * e + z * f)
   = (p * p + s * s + v * v) * (a * d) + (q * q + t * t + w * w) * (b * e) + (r * r + u * u + z * z) * (c * f) + (p * q + s * t + v * w) * (a * e + b * d) + (p * r + s * u + v * z) * (a * f + c * d) + (q * r + t * u + w * z) * (b * f + c * e) := by grind
 rw [e1, c00, c11, c22, c01, c02, c12]; omega
/-- Sums of products are kept. -/
theorem trn_keep {m : S139} (hm : okM m = true) (a b c d e f : Int) : dot3 (trn m a b c).1 (trn m a b c).2.1 (trn m a b c).2.2 (trn m d e f).1 (trn m d e f).2.1 (trn m d e f).2.2 = dot3 a b c d e f := by
 obtain ⟨h1, h2, h3, h4, h5, h6⟩ := okM_eq hm
 unfold trn dot3
 exact keep_core _ _ _ _ _ _ _ _ _ a b c d e f h1 h2 h3 h4 h5 h6
theorem inj_core (p q r s t u v w z a b c : Int) (c00 : p * p + s * s + v * v = 1) (c11 : q * q + t * t + w * w = 1) (c22 : r * r + u * u + z * z = 1)
  (c01 : p * q + s * t + v * w = 0) (c02 : p * r + s * u + v * z = 0) (c12 : q * r + t * u + w * z = 0) :
  a = p * (p * a + q * b + r * c) + s * (s * a + t * b + u * c) + v * (v * a + w * b + z * c) ∧ b = q * (p * a + q * b + r * c) + t * (s * a + t * b + u * c) + w * (v * a + w * b + z * c) ∧ c = r * (p * a + q * b + r * c) + u * (s * a + t * b + u * c) + z * (v * a + w * b + z * c) := by
 have e1 : p * (p * a + q * b + r * c) + s * (s * a + t * b + u * c) + v * (v * a + w * b + z * c) = (p * p + s * s + v * v) * a + (p * q + s * t + v * w) * b + (p * r + s * u + v * z) * c := by grind
 have e2 : q * (p * a + q * b + r * c) + t * (s * a + t * b + u * c) + w * (v * a + w * b + z * c) = (p * q + s * t + v * w) * a + (q * q + t * t + w * w) * b + (q * r + t * u + w * z) * c := by grind
 have e3 : r * (p * a + q * b + r * c) + u * (s * a + t * b + u * c) + z * (v * a + w * b + z * c) = (p * r + s * u + v * z) * a + (q * r + t * u + w * z) * b + (r * r + u * u + z * z) * c := by grind
 rw [e1, e2, e3, c00, c11, c22, c01, c02, c12]; omega
theorem trn_inj {m : S139} (hm : okM m = true) {a b c d e f : Int} (h : trn m a b c = trn m d e f) : a = d ∧ b = e ∧ c = f := by
 obtain ⟨h1, h2, h3, h4, h5, h6⟩ := okM_eq hm
 have i1 := inj_core _ _ _ _ _ _ _ _ _ a b c h1 h2 h3 h4 h5 h6
 have i2 := inj_core _ _ _ _ _ _ _ _ _ d e f h1 h2 h3 h4 h5 h6
 unfold trn dot3 at h
 simp only [Prod.mk.injEq] at h
 obtain ⟨g1, g2, g3⟩ := h
 rw [g1, g2, g3] at i1
 exact ⟨i1.1.trans i2.1.symm, i1.2.1.trans i2.2.1.symm, i1.2.2.trans i2.2.2.symm⟩
theorem trn_in {m : S139} (hm : okM m = true) {a b c : Int} (hd : dirOK a b c) : (-60 ≤ (trn m a b c).1 ∧ (trn m a b c).1 ≤ 60) ∧ (-60 ≤ (trn m a b c).2.1 ∧ (trn m a b c).2.1 ≤ 60) ∧ (-60 ≤ (trn m a b c).2.2 ∧ (trn m a b c).2.2 ≤ 60) := by
 obtain ⟨⟨h0, h1, h2⟩, ⟨h3, h4, h5⟩, ⟨h6, h7, h8⟩⟩ := okM_un hm
 obtain ⟨d1, d2, d3⟩ := hd
 have e0 := un_mul h0 d1; have e1 := un_mul h1 d2; have e2 := un_mul h2 d3
 have e3 := un_mul h3 d1; have e4 := un_mul h4 d2; have e5 := un_mul h5 d3
 have e6 := un_mul h6 d1; have e7 := un_mul h7 d2; have e8 := un_mul h8 d3
 unfold trn dot3
 refine ⟨?_, ?_, ?_⟩ <;> (simp only []; omega)

theorem TurnedErr_ev (i a b c : Int) : Ev (fun k => Rf_TurnedErr.f k i a b c) (if idx24 i ∧ dirOK a b c then 0 else 2) := by
 unfold Rf_TurnedErr.f
 simp only [Within_eq, Option.bind_some, decide_eq_true_eq]
 by_cases h : 0 ≤ i ∧ i ≤ 23
 ·have h' : idx24 i := h
  simp only [h, h', and_self, if_true, true_and]
  refine Ev.bind (IsDir_ev a b c) ?_
  by_cases hd : dirOK a b c
  ·simp only [hd, decide_true, if_true]; exact Ev.some
  ·simp only [hd, decide_false, if_false, Bool.false_eq_true]; exact Ev.some
 ·have h' : ¬ idx24 i := h
  simp only [h, h', if_false, false_and]; exact Ev.some
/-- What TurnedBy says. -/
def tby (i a b c : Int) : Int × Int × Int × Int :=
 if idx24 i ∧ dirOK a b c then ((trn (rd_T139 rotL i) a b c).1, (trn (rd_T139 rotL i) a b c).2.1, (trn (rd_T139 rotL i) a b c).2.2, 0) else (0, 0, 0, 2)
theorem TurnedBy_ev (i a b c : Int) : Ev (fun k => L_TurnedBy.f k i a b c) (tby i a b c) := by
 unfold L_TurnedBy.f tby
 rw [indexErr_eq, isDir_eq]
 simp only [unless_eq, Option.bind_some, decide_eq_true_eq]
 refine Ev.bind (first_ev _ (by simp)) ?_
 by_cases h : idx24 i
 ·by_cases hd : dirOK a b c
  ·simp only [h, hd, fnz, and_self, if_true]
   refine Ev.bind rotations_ev ?_
   obtain ⟨n, rfl⟩ : ∃ n : Nat, i = (n : Int) := ⟨i.toNat, by have := h.1; omega⟩
   have hn : n < 24 := by have := h.2; omega
   have hl : (n : Int) < (rotL.length : Int) := by rw [rotL_len]; omega
   simp only [show (0 : Int) ≤ (n : Int) by omega, hl, if_true, turned_eq (rot_ok n hn) hd, Option.bind_some]
   exact Ev.some
  ·simp only [h, hd, fnz, and_false, if_true, if_false, show ¬ (2 : Int) = 0 by decide]; exact Ev.some
 ·simp only [h, fnz, false_and, if_false, show ¬ (2 : Int) = 0 by decide]; exact Ev.some
theorem awake_ev : Ev (fun k => Lw_awake.f k) true :=
 Ev.of_mono (k := 1500) (fun k => Lw_awake.mono k) (by kernel_rfl)
theorem RotationOf_ev {n : Nat} (hn : n < 24) (m : S139) (hm : m = rd_T139 rotL (n : Int)) : Ev (fun k => L_RotationOf.f k (n : Int)) (m.f0.f0, m.f0.f1, m.f0.f2, m.f1.f0, m.f1.f1, m.f1.f2, m.f2.f0, m.f2.f1, m.f2.f2, 0) := by
 unfold L_RotationOf.f
 have hi : idx24 (n : Int) := ⟨by omega, by omega⟩
 rw [indexErr_eq]
 simp only [hi, if_true, Option.bind_some]
 refine Ev.bind rotations_ev ?_
 have hl : (n : Int) < (rotL.length : Int) := by rw [rotL_len]; omega
 simp only [show (0 : Int) ≤ (n : Int) by omega, hl, if_true, ← hm]
 exact Ev.some
theorem RotationOf_no {i : Int} (hi : ¬ idx24 i) : Ev (fun k => L_RotationOf.f k i) (0, 0, 0, 0, 0, 0, 0, 0, 0, 2) := by
 unfold L_RotationOf.f
 rw [indexErr_eq]
 simp only [hi, if_false, Option.bind_some, show ¬ (2 : Int) = 0 by decide]
 exact Ev.some
theorem tby_ok {n : Nat} (hn : n < 24) {m : S139} (hm : m = rd_T139 rotL (n : Int)) {a b c : Int} (hd : dirOK a b c) : tby (n : Int) a b c = ((trn m a b c).1, (trn m a b c).2.1, (trn m a b c).2.2, 0) := by
 unfold tby
 rw [if_pos ⟨⟨by omega, by omega⟩, hd⟩, ← hm]
theorem tby_no {i : Int} {a b c : Int} (hd : ¬ (idx24 i ∧ dirOK a b c)) : tby i a b c = (0, 0, 0, 2) := by
 unfold tby; rw [if_neg hd]
theorem dot60 {a0 a1 a2 b0 b1 b2 B : Int} (ha0 : -B ≤ a0 ∧ a0 ≤ B) (ha1 : -B ≤ a1 ∧ a1 ≤ B) (ha2 : -B ≤ a2 ∧ a2 ≤ B) (hb0 : -B ≤ b0 ∧ b0 ≤ B) (hb1 : -B ≤ b1 ∧ b1 ≤ B) (hb2 : -B ≤ b2 ∧ b2 ≤ B) (hB : 0 ≤ B ∧ B ≤ 1000) :
  wrap64 (wrap64 (wrap64 (a0 * b0) + wrap64 (a1 * b1)) + wrap64 (a2 * b2)) = dot3 a0 a1 a2 b0 b1 b2 := by
 have key : ∀ x y : Int, (-B ≤ x ∧ x ≤ B) → (-B ≤ y ∧ y ≤ B) → -1000000 ≤ x * y ∧ x * y ≤ 1000000 := by
  intro x y hx hy
  have h : (x * y).natAbs ≤ 1000 * 1000 := by rw [Int.natAbs_mul]; exact Nat.mul_le_mul (by omega) (by omega)
  omega
 exact dot_eq _ _ _ _ _ _ 1000000 (key _ _ ha0 hb0) (key _ _ ha1 hb1) (key _ _ ha2 hb2) (by omega)
theorem rot_j1 {n : Nat} (hn : n < 24) {m : S139} (hm : m = rd_T139 rotL (n : Int)) {a b c d e f : Int} (h1 : dirOK a b c) (h2 : dirOK d e f) :
  Ev (fun k => Lw_TargetRotations.j1 k 0 0 false a b c d e f (trn m a b c).1 (trn m a b c).2.1 (trn m a b c).2.2 (trn m d e f).1 (trn m d e f).2.1 (trn m d e f).2.2) true := by
 have ho : okM m = true := by rw [hm]; exact rot_ok n hn
 refine Ev.succ (f := fun k => Lw_TargetRotations.j1 k 0 0 false a b c d e f (trn m a b c).1 (trn m a b c).2.1 (trn m a b c).2.2 (trn m d e f).1 (trn m d e f).2.1 (trn m d e f).2.2) ?_
 obtain ⟨t1, t2, t3⟩ := trn_in ho h1
 obtain ⟨t4, t5, t6⟩ := trn_in ho h2
 obtain ⟨q1, q2, q3⟩ := h1
 obtain ⟨q4, q5, q6⟩ := h2
 simp only [Lw_TargetRotations.j1, Bool.false_eq_true, if_false, if_true]
 rw [dot60 t1 t2 t3 t4 t5 t6 (by omega), dot60 q1 q2 q3 q4 q5 q6 (by omega), trn_keep ho]
 simp only [if_true]
 have : ((trn m a b c).1 == (trn m d e f).1 && ((trn m a b c).2.1 == (trn m d e f).2.1 && ((trn m a b c).2.2 == (trn m d e f).2.2))) = (a == d && (b == e && (c == f))) := by
  by_cases hq : a = d ∧ b = e ∧ c = f
  ·obtain ⟨rfl, rfl, rfl⟩ := hq
   simp
  ·have hne : ¬ ((trn m a b c).1 = (trn m d e f).1 ∧ (trn m a b c).2.1 = (trn m d e f).2.1 ∧ (trn m a b c).2.2 = (trn m d e f).2.2) := fun hc => hq (trn_inj ho (Prod.ext hc.1 (Prod.ext hc.2.1 hc.2.2)))
   rw [Bool.eq_iff_iff]
   simp only [Bool.and_eq_true, beq_iff_eq]
   exact ⟨fun hc => absurd hc hne, fun hc => absurd hc hq⟩
 rw [this]
 simp only [beq_self_eq_true]
 exact Ev.some
theorem rot_j1no (x y : Int) (h : ¬ (x = 0 ∧ y = 0)) (a b c d e f g h' i j l m : Int) : Ev (fun k => Lw_TargetRotations.j1 k x y false a b c d e f g h' i j l m) true := by
 refine Ev.succ (f := fun k => Lw_TargetRotations.j1 k x y false a b c d e f g h' i j l m) ?_
 simp only [Lw_TargetRotations.j1, Bool.false_eq_true, if_false]
 by_cases h1 : x = 0
 ·have h2 : ¬ y = 0 := fun h2 => h ⟨h1, h2⟩
  simp only [h1, h2, if_true, if_false]; exact Ev.some
 ·simp only [h1, if_false]; exact Ev.some
theorem TargetRotations_ev (i a b c d e f : Int) : Ev (fun k => Lw_TargetRotations.f k i a b c d e f) true := by
 unfold Lw_TargetRotations.f
 refine Ev.bind awake_ev ?_
 simp only [if_true]
 by_cases hi : idx24 i
 ·obtain ⟨n, rfl⟩ : ∃ n : Nat, i = (n : Int) := ⟨i.toNat, by have := hi.1; omega⟩
  have hn : n < 24 := by have := hi.2; omega
  obtain ⟨m, hm⟩ : ∃ m, m = rd_T139 rotL (n : Int) := ⟨_, rfl⟩
  have ho : okM m = true := by rw [hm]; exact rot_ok n hn
  have hcv : rd_T45 (rotL.map cv) (n : Int) = cv m := by rw [rd_cv n hn, hm]
  refine Ev.bind (RotationOf_ev hn m hm) ?_
  refine Ev.bind (TurnedBy_ev _ a b c) ?_
  refine Ev.bind (TurnedBy_ev _ d e f) ?_
  have hw : (0 : Int) ≤ (n : Int) ∧ (n : Int) ≤ 23 := hi
  simp only [Within_eq, Option.bind_some, hw, and_self, decide_true, if_true]
  refine Ev.bind Rotations_ev ?_
  have hl : (n : Int) < ((rotL.map cv).length : Int) := by rw [List.length_map, rotL_len]; omega
  simp only [hw.1, hl, if_true, hcv]
  simp only [cv, cv1, beq_self_eq_true, Bool.not_true, Bool.or_self]
  refine Ev.succ (f := fun k => Lw_TargetRotations.j0 k _ _ _ _ _ _ _ _ _ _ _ _ _ _ _ _ _ _ _ _ _ _ _ _ _) ?_
  simp only [Lw_TargetRotations.j0, Bool.false_eq_true, if_false]
  refine Ev.bind (TurnedErr_ev _ _ _ _) ?_
  refine Ev.bind (TurnedErr_ev _ _ _ _) ?_
  by_cases h1 : dirOK a b c
  ·by_cases h2 : dirOK d e f
   ·simp only [hi, h1, h2, and_self, if_true, tby_ok hn hm h1, tby_ok hn hm h2, Turned_eq ho h1, Turned_eq ho h2, Option.bind_some, beq_self_eq_true, Bool.not_true, Bool.or_self, Bool.false_eq_true, if_false]
    exact rot_j1 hn hm h1 h2
   ·simp only [hi, h1, h2, and_self, and_false, if_true, if_false, tby_ok hn hm h1, tby_no (i := (n : Int)) (a := d) (b := e) (c := f) (fun h => h2 h.2), Turned_eq ho h1, Option.bind_some, beq_self_eq_true, Bool.not_true, Bool.or_self, Bool.false_eq_true, show ¬ (2 : Int) = 0 by decide]
    exact rot_j1no _ _ (by decide) _ _ _ _ _ _ _ _ _ _ _ _
  ·by_cases h2 : dirOK d e f
   ·simp only [hi, h1, h2, and_self, and_false, if_true, if_false, tby_ok hn hm h2, tby_no (i := (n : Int)) (a := a) (b := b) (c := c) (fun h => h1 h.2), Turned_eq ho h2, Option.bind_some, beq_self_eq_true, Bool.not_true, Bool.or_self, Bool.false_eq_true, show ¬ (2 : Int) = 0 by decide]
    exact rot_j1no _ _ (by decide) _ _ _ _ _ _ _ _ _ _ _ _
   ·simp only [hi, h1, h2, and_self, and_false, if_true, if_false, tby_no (i := (n : Int)) (a := a) (b := b) (c := c) (fun h => h1 h.2), tby_no (i := (n : Int)) (a := d) (b := e) (c := f) (fun h => h2 h.2), Option.bind_some, beq_self_eq_true, Bool.not_true, Bool.or_self, Bool.false_eq_true, show ¬ (2 : Int) = 0 by decide]
    exact rot_j1no _ _ (by decide) _ _ _ _ _ _ _ _ _ _ _ _
 ·refine Ev.bind (RotationOf_no hi) ?_
  refine Ev.bind (TurnedBy_ev _ a b c) ?_
  refine Ev.bind (TurnedBy_ev _ d e f) ?_
  have hw : ¬ ((0 : Int) ≤ i ∧ i ≤ 23) := hi
  simp only [Within_eq, Option.bind_some, hw, decide_false, Bool.false_eq_true, if_false, tby_no (i := i) (a := a) (b := b) (c := c) (fun h => hi h.1), tby_no (i := i) (a := d) (b := e) (c := f) (fun h => hi h.1), if_true, beq_self_eq_true, Bool.and_self]
  exact Ev.some
theorem TargetRotations_pure (i : Int) (_ : (Lit.int .i64 i).wf = true) (a : Int) (_ : (Lit.int .i64 a).wf = true) (b : Int) (_ : (Lit.int .i64 b).wf = true) (c : Int) (_ : (Lit.int .i64 c).wf = true) (d : Int) (_ : (Lit.int .i64 d).wf = true) (e : Int) (_ : (Lit.int .i64 e).wf = true) (f : Int) (_ : (Lit.int .i64 f).wf = true) :
  ∃ k, Lw_TargetRotations.f k i a b c d e f = some true := (TargetRotations_ev i a b c d e f).ex
end Go.Proofs.Ytibhfahbabgbaaa.P
