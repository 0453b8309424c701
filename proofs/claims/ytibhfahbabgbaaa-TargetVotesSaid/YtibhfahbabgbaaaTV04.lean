/-
PLAIN LAW: what the walks compute answers as the statement says (no program in sight; Ev: from some number of rounds on).
-/
import Derived.Test.YtibhfahbabgbaaaB05
import Derived.Test.YtibhfahbabgbaaaB11
import Derived.Test.YtibhfahbabgbaaaTV01
import Derived.Test.YtibhfahbabgbaaaTV02
import Derived.Test.YtibhfahbabgbaaaB16
import Derived.Test.YtibhfahbabgbaaaTV03
import Derived.Test.YtibhfahbabgbaaaB08
import Derived.Test.YtibhfahbabgbaaaB12
import Derived.Test.YtibhfahbabgbaaaB10
namespace Go.Proofs.Ytibhfahbabgbaaa.P
open Go Go.RowKit Go.Proofs.Ytibhfahbabgbaaa.A Go.Proofs.YtibhfahbabgbaaaW.PrintWords Go.Proofs.YtibhfahbabgbaaaW.PrintLast Go.Proofs.YtibhfahbabgbaaaW.PrintMore
set_option linter.unusedSimpArgs false
set_option linter.unusedVariables false
/-- From some number of rounds on, f says r. -/
def Ev {α : Type} (f : Nat → Option α) (r : α) : Prop := ∃ k, ∀ j, k ≤ j → f j = some r

theorem Ev.some {α : Type} {r : α} : Ev (fun _ => Option.some r) r := ⟨0, fun _ _ => rfl⟩
theorem Ev.bind {α β : Type} {f : Nat → Option α} {g : Nat → α → Option β} {a : α} {b : β} (h : Ev f a) (h2 : Ev (fun k => g k a) b) : Ev (fun k => (f k).bind (g k)) b := by
 obtain ⟨k, hk⟩ := h
 obtain ⟨m, hm⟩ := h2
 exact ⟨max k m, fun j hj => by show (f j).bind (g j) = _; rw [hk j (by omega)]; exact hm j (by omega)⟩
theorem Ev.succ {α : Type} {f : Nat → Option α} {r : α} (h : Ev (fun k => f (k + 1)) r) : Ev f r := by
 obtain ⟨k, hk⟩ := h
 exact ⟨k + 1, fun j hj => by obtain ⟨m, rfl⟩ : ∃ m, j = m + 1 := ⟨j - 1, by omega⟩; exact hk m (by omega)⟩
theorem Ev.ex {α : Type} {f : Nat → Option α} {r : α} (h : Ev f r) : ∃ k, f k = Option.some r := let ⟨k, hk⟩ := h; ⟨k, hk k (Nat.le_refl _)⟩
theorem Ev.of_mono {α : Type} {f : Nat → Option α} {r : α} (hm : ∀ k, LeO (f k) (f (k + 1))) {k : Nat} (h : f k = Option.some r) : Ev f r := by
  refine ⟨k, fun j hj => ?_⟩
  induction j with
  | zero => obtain rfl : k = 0 := by omega
            exact h
  | succ j ih =>
    by_cases e : k = j + 1
    · subst e; exact h
    · exact hm j r (ih (by omega))
theorem up {i : Nat} (h : i < 4611686018427387904) : wrap64 ((i : Int) + 1) = ((i + 1 : Nat) : Int) := by
 unfold wrap64; omega
theorem w64 {n : Int} (h : -9223372036854775808 ≤ n ∧ n ≤ 9223372036854775807) : wrap64 n = n := by unfold wrap64; omega
theorem rd_nat (l : List Int) (i : Nat) : rd l (i : Int) = l.getD i 0 := by unfold rd; simp
theorem drop_rd {l : List Int} {i : Nat} (h : i < l.length) : l.drop i = rd l (i : Int) :: l.drop (i + 1) := by
 rw [rd_nat, List.drop_eq_getElem_cons h]
 simp [List.getD_eq_getElem?_getD, h]
theorem drop_getD {α : Type} {l : List α} {i : Nat} (z : α) (h : i < l.length) : l.drop i = l.getD i z :: l.drop (i + 1) := by
 rw [List.drop_eq_getElem_cons h]
 simp [List.getD_eq_getElem?_getD, h]

theorem mx_eq (a b : Int) : mx a b = max a b := by unfold mx; split <;> omega
theorem mn_eq (a b : Int) : mn a b = min a b := by unfold mn; split <;> omega
theorem within_eq (a b c : Int) : L_within.f a b c = some (decide (b ≤ a ∧ a ≤ c)) := by
 unfold L_within.f
 by_cases h : b ≤ a <;> simp [h]
theorem Within_eq (a b c : Int) : Bs_Within.f a b c = some (decide (b ≤ a ∧ a ≤ c)) := by
 unfold Bs_Within.f
 by_cases h : b ≤ a <;> simp [h]
theorem unless_eq (b : Bool) (e : Int) : L_unless.f b e = some (if b = true then 0 else e) := by
 unfold L_unless.f
 cases b <;> simp
/-- The first number that is not 0. -/
def fnz : List Int → Int
 | [] => 0
 | x :: r => if x = 0 then fnz r else x

theorem first_l0 (l : List Int) (hl : l.length < 4611686018427387904) : ∀ (n i : Nat), i + n = l.length → Ev (fun k => L_first.l0 k l (l.length : Int) (i : Int)) (fnz (l.drop i))
 | 0, i, h => by
  refine Ev.succ (f := fun k => L_first.l0 k l (l.length : Int) (i : Int)) ?_
  have h1 : ¬ (i : Int) < (l.length : Int) := by omega
  simp only [L_first.l0, h1, if_false]
  rw [show l.drop i = [] from List.drop_eq_nil_of_le (by omega)]
  exact Ev.some
 | n + 1, i, h => by
  refine Ev.succ (f := fun k => L_first.l0 k l (l.length : Int) (i : Int)) ?_
  have h1 : (i : Int) < (l.length : Int) := by omega
  have h2 : (0 : Int) ≤ (i : Int) := by omega
  simp only [L_first.l0, h1, h2, if_true, up (show i < 4611686018427387904 by omega)]
  rw [drop_rd (show i < l.length by omega)]
  unfold fnz
  by_cases e : rd l (i : Int) = 0
  ·simp only [e, if_true]
   exact first_l0 l hl n (i + 1) (by omega)
  ·simp only [e, if_false]
   exact Ev.some
theorem first_ev (l : List Int) (hl : l.length < 4611686018427387904) : Ev (fun k => L_first.f k l) (fnz l) := first_l0 l hl l.length 0 (by omega)

theorem rd85_drop {l : List S85} {i : Nat} (h : i < l.length) : l.drop i = rd_T85 l (i : Int) :: l.drop (i + 1) := by
 rw [drop_getD z85 h]; rfl
theorem rd85_mem {l : List S85} {i : Nat} (h : i < l.length) : rd_T85 l (i : Int) ∈ l := by
 have : rd_T85 l (i : Int) ∈ l.drop i := by rw [rd85_drop h]; exact List.mem_cons_self
 exact List.mem_of_mem_drop this
theorem rd85_getElem {l : List S85} {i : Nat} (h : i < l.length) : rd_T85 l (i : Int) = l[i] := by
 unfold rd_T85
 simp [List.getD_eq_getElem?_getD, h]
def okR (t : S85) : Prop := (0 ≤ t.f0 ∧ t.f0 ≤ 2000) ∧ (0 ≤ t.f1 ∧ t.f1 ≤ 2000) ∧ (0 ≤ t.f2 ∧ t.f2 ≤ 1000)
instance (t : S85) : Decidable (okR t) := by unfold okR; infer_instance
def ckF (l : List S85) : Nat → Nat → Int × Int
 | 0, _ => (0, 0)
 | n + 1, i => if okR (rd_T85 l (i : Int)) then ckF l n (i + 1) else ((i : Int), 2)
/-- The index and the error of readings. -/
def ckR (l : List S85) : Int × Int := if l.length = 0 then (0, 10) else if 8 < l.length then (0, 8) else ckF l l.length 0
theorem ckR1_eq (x : Int) : L_CheckReadings_1.f x = some (decide (0 ≤ x ∧ x ≤ 2000)) := by
 unfold L_CheckReadings_1.f
 rw [within_eq]; rfl
theorem CheckReadings_l0 (l : List S85) (hl : l.length ≤ 8) : ∀ (n i : Nat), i + n = l.length → Ev (fun k => L_CheckReadings.l0 k l (l.length : Int) (i : Int)) (ckF l n i) ∧ Ev (fun k => Rf_CheckReadings.l0 k l (i : Int)) (ckF l n i)
 | 0, i, h => by
  constructor
  ·refine Ev.succ (f := fun k => L_CheckReadings.l0 k l (l.length : Int) (i : Int)) ?_
   simp only [L_CheckReadings.l0, show ¬ (i : Int) < (l.length : Int) by omega, if_false, ckF]
   exact Ev.some
  ·refine Ev.succ (f := fun k => Rf_CheckReadings.l0 k l (i : Int)) ?_
   simp only [Rf_CheckReadings.l0, show ¬ (i : Int) < (l.length : Int) by omega, if_false, ckF]
   exact Ev.some
 | n + 1, i, h => by
  have ih := CheckReadings_l0 l hl n (i + 1) (by omega)
  have e : ckF l (n + 1) i = if okR (rd_T85 l (i : Int)) then ckF l n (i + 1) else ((i : Int), 2) := rfl
  constructor
  ·refine Ev.succ (f := fun k => L_CheckReadings.l0 k l (l.length : Int) (i : Int)) ?_
   rw [e]
   simp only [L_CheckReadings.l0, show (i : Int) < (l.length : Int) by omega, show (0 : Int) ≤ (i : Int) by omega, if_true, ckR1_eq, within_eq, Option.bind_some, up (show i < 4611686018427387904 by omega), decide_eq_true_eq]
   unfold okR
   by_cases h1 : 0 ≤ (rd_T85 l (i : Int)).f0 ∧ (rd_T85 l (i : Int)).f0 ≤ 2000
   ·by_cases h2 : 0 ≤ (rd_T85 l (i : Int)).f1 ∧ (rd_T85 l (i : Int)).f1 ≤ 2000
    ·by_cases h3 : 0 ≤ (rd_T85 l (i : Int)).f2 ∧ (rd_T85 l (i : Int)).f2 ≤ 1000
     ·simp only [h1, h2, h3, and_self, if_true]; exact ih.1
     ·simp only [h1, h2, h3, and_self, and_false, if_true, if_false]; exact Ev.some
    ·simp only [h1, h2, false_and, and_false, and_self, if_true, if_false]; exact Ev.some
   ·simp only [h1, false_and, if_false]; exact Ev.some
  ·refine Ev.succ (f := fun k => Rf_CheckReadings.l0 k l (i : Int)) ?_
   rw [e]
   simp only [Rf_CheckReadings.l0, show (i : Int) < (l.length : Int) by omega, show (0 : Int) ≤ (i : Int) by omega, if_true, Within_eq, Option.bind_some, up (show i < 4611686018427387904 by omega), decide_eq_true_eq]
   unfold okR
   by_cases h1 : 0 ≤ (rd_T85 l (i : Int)).f0 ∧ (rd_T85 l (i : Int)).f0 ≤ 2000
   ·by_cases h2 : 0 ≤ (rd_T85 l (i : Int)).f1 ∧ (rd_T85 l (i : Int)).f1 ≤ 2000
    ·by_cases h3 : 0 ≤ (rd_T85 l (i : Int)).f2 ∧ (rd_T85 l (i : Int)).f2 ≤ 1000
     ·simp only [h1, h2, h3, and_self, if_true]; exact ih.2
     ·simp only [h1, h2, h3, and_self, and_false, if_true, if_false]; exact Ev.some
    ·simp only [h1, h2, false_and, and_false, and_self, if_true, if_false]; exact Ev.some
   ·simp only [h1, false_and, if_false]; exact Ev.some
theorem CheckReadings_ev (l : List S85) : Ev (fun k => L_CheckReadings.f k l) (ckR l) := by
 unfold L_CheckReadings.f ckR
 simp only [unless_eq, Option.bind_some, decide_eq_true_eq]
 refine Ev.bind (first_ev _ (by simp)) ?_
 by_cases h0 : l.length = 0
 ·simp only [h0, show ¬ (((0 : Nat) : Int) > 0) by omega, if_false, if_true, fnz, show ¬ (10 : Int) = 0 by decide]; exact Ev.some
 ·by_cases h1 : 8 < l.length
  ·simp only [h0, h1, show (l.length : Int) > 0 by omega, show ¬ (l.length : Int) ≤ 8 by omega, if_false, if_true, fnz, show ¬ (8 : Int) = 0 by decide]; exact Ev.some
  ·simp only [h0, h1, show (l.length : Int) > 0 by omega, show (l.length : Int) ≤ 8 by omega, if_false, if_true, fnz]
   exact (CheckReadings_l0 l (by omega) l.length 0 (by omega)).1
theorem RCheckReadings_ev (l : List S85) : Ev (fun k => Rf_CheckReadings.f k l) (ckR l) := by
 unfold Rf_CheckReadings.f ckR
 by_cases h0 : l.length = 0
 ·simp only [h0, show (((0 : Nat) : Int) = 0) by rfl, if_true]; exact Ev.some
 ·by_cases h1 : 8 < l.length
  ·simp only [h0, h1, show ¬ (l.length : Int) = 0 by omega, show (l.length : Int) > 8 by omega, if_false, if_true]; exact Ev.some
  ·simp only [h0, h1, show ¬ (l.length : Int) = 0 by omega, show ¬ (l.length : Int) > 8 by omega, if_false]
   exact (CheckReadings_l0 l (by omega) l.length 0 (by omega)).2
/-- The error of readings. -/
def rsE (l : List S85) : Int := (ckR l).2
theorem readingsErr_ev (l : List S85) : Ev (fun k => L_readingsErr.f k l) (rsE l) := Ev.bind (CheckReadings_ev l) Ev.some
theorem ReadingsErr_ev (l : List S85) : Ev (fun k => Rf_ReadingsErr.f k l) (rsE l) := Ev.bind (RCheckReadings_ev l) Ev.some
theorem ckF_ok (l : List S85) : ∀ (n i : Nat), (ckF l n i).2 = 0 → ∀ j, i ≤ j → j < i + n → okR (rd_T85 l (j : Int))
 | 0, i, _, j, h1, h2 => by omega
 | n + 1, i, h, j, h1, h2 => by
  unfold ckF at h
  by_cases e : okR (rd_T85 l (i : Int))
  ·rw [if_pos e] at h
   by_cases hj : j = i
   ·rw [hj]; exact e
   ·exact ckF_ok l n (i + 1) h j (by omega) (by omega)
  ·rw [if_neg e] at h; cases h
/-- Valid readings. -/
theorem readings_ok {l : List S85} (h : rsE l = 0) : 1 ≤ l.length ∧ l.length ≤ 8 ∧ ∀ t ∈ l, okR t := by
 unfold rsE ckR at h
 by_cases h0 : l.length = 0
 ·rw [if_pos h0] at h; cases h
 ·rw [if_neg h0] at h
  by_cases h1 : 8 < l.length
  ·rw [if_pos h1] at h; cases h
  ·rw [if_neg h1] at h
   refine ⟨by omega, by omega, fun t ht => ?_⟩
   obtain ⟨i, hi, rfl⟩ := List.getElem_of_mem ht
   rw [← rd85_getElem hi]
   exact ckF_ok l l.length 0 h i (by omega) (by omega)
theorem CopyReadings_eq (l : List S85) (h : l.length < 5864062014805) : Rf_CopyReadings.f l = some l := by
 unfold Rf_CopyReadings.f
 simp [h]
theorem few_eq (l : List S85) : Lw_few.f l = some (decide ((l.length : Int) ≤ 10)) := rfl

def oLo (t : S85) : Int := t.f1 - t.f0 - t.f2
def oHi (t : S85) : Int := t.f1 - t.f0 + t.f2
def ft (o : Int) (t : S85) : Bool := decide (oLo t ≤ o ∧ o ≤ oHi t)
theorem o_in {t : S85} (h : okR t) : -3000 ≤ oLo t ∧ oLo t ≤ oHi t ∧ oHi t ≤ 3000 := by unfold okR at h; unfold oLo oHi; omega
theorem offsets_eq {t : S85} (h : okR t) : L_offsets.f t.f0 t.f1 t.f2 = some (oLo t, oHi t) := by
 unfold okR at h
 unfold L_offsets.f oLo oHi
 rw [w64 (n := t.f1 - t.f0) (by omega), w64 (by omega), w64 (by omega)]
theorem Offsets_eq {t : S85} (h : okR t) : Rf_offsets.f t.f0 t.f1 t.f2 = some (oLo t, oHi t) := by
 unfold okR at h
 unfold Rf_offsets.f oLo oHi
 rw [w64 (n := t.f1 - t.f2) (by omega), w64 (n := t.f1 + t.f2) (by omega), w64 (by omega), w64 (by omega)]
 rw [show t.f1 - t.f2 - t.f0 = t.f1 - t.f0 - t.f2 by omega, show t.f1 + t.f2 - t.f0 = t.f1 - t.f0 + t.f2 by omega]
def cmx : List S85 → Int → Int
 | [], a => a
 | t :: r, a => cmx r (max a (oLo t))
def cmn : List S85 → Int → Int
 | [], a => a
 | t :: r, a => cmn r (min a (oHi t))
/-- The offsets that fit all of some readings. -/
def com (r : List S85) : Int × Int := (cmx r (-20000), cmn r 20000)
theorem common_l0 (r : List S85) (hr : r.length < 4611686018427387904) (hk : ∀ t ∈ r, okR t) : ∀ (n i : Nat) (a b : Int), i + n = r.length → Ev (fun k => L_common.l0 k r (r.length : Int) (i : Int) a b) (cmx (r.drop i) a, cmn (r.drop i) b, decide (cmx (r.drop i) a ≤ cmn (r.drop i) b))
 | 0, i, a, b, h => by
  refine Ev.succ (f := fun k => L_common.l0 k r (r.length : Int) (i : Int) a b) ?_
  simp only [L_common.l0, show ¬ (i : Int) < (r.length : Int) by omega, if_false]
  rw [show r.drop i = [] from List.drop_eq_nil_of_le (by omega)]
  exact Ev.some
 | n + 1, i, a, b, h => by
  refine Ev.succ (f := fun k => L_common.l0 k r (r.length : Int) (i : Int) a b) ?_
  have hi : i < r.length := by omega
  rw [rd85_drop hi]
  simp only [L_common.l0, show (i : Int) < (r.length : Int) by omega, show (0 : Int) ≤ (i : Int) by omega, if_true, offsets_eq (hk _ (rd85_mem hi)), Option.bind_some, up (show i < 4611686018427387904 by omega), mx_eq, mn_eq, cmx, cmn]
  exact common_l0 r hr hk n (i + 1) _ _ (by omega)
theorem common_ev (r : List S85) (h0 : r ≠ []) (hr : r.length < 4611686018427387904) (hk : ∀ t ∈ r, okR t) : Ev (fun k => L_common.f k r) ((com r).1, (com r).2, decide ((com r).1 ≤ (com r).2)) := by
  cases r with
  | nil => exact absurd rfl h0
  | cons t q =>
    have ht := hk t List.mem_cons_self
    have ho := o_in ht
    unfold L_common.f
    have e : rd_T85 (t :: q) 0 = t := rfl
    simp only [show (0 : Int) < ((t :: q).length : Int) by rw [List.length_cons]; omega, if_true, e, offsets_eq ht, Option.bind_some]
    have := common_l0 (t :: q) hr hk (t :: q).length 0 (oLo t) (oHi t) (by omega)
    have e1 : cmx (t :: q) (oLo t) = cmx (t :: q) (-20000) := by
      show cmx q (max (oLo t) (oLo t)) = cmx q (max (-20000) (oLo t))
      rw [show max (oLo t) (oLo t) = max (-20000) (oLo t) by omega]
    have e2 : cmn (t :: q) (oHi t) = cmn (t :: q) 20000 := by
      show cmn q (min (oHi t) (oHi t)) = cmn q (min 20000 (oHi t))
      rw [show min (oHi t) (oHi t) = min 20000 (oHi t) by omega]
    rw [List.drop_zero, e1, e2] at this
    exact this
theorem cmx_le : ∀ (r : List S85) (a b : Int), cmx r a ≤ b ↔ a ≤ b ∧ ∀ t ∈ r, oLo t ≤ b
 | [], a, b => by simp [cmx]
 | t :: r, a, b => by
  rw [cmx, cmx_le r]
  simp only [List.mem_cons, forall_eq_or_imp]
  constructor
  ·rintro ⟨h1, h2⟩; exact ⟨by omega, by omega, h2⟩
  ·rintro ⟨h1, h2, h3⟩; exact ⟨by omega, h3⟩
theorem le_cmn : ∀ (r : List S85) (a b : Int), b ≤ cmn r a ↔ b ≤ a ∧ ∀ t ∈ r, b ≤ oHi t
 | [], a, b => by simp [cmn]
 | t :: r, a, b => by
  rw [cmn, le_cmn r]
  simp only [List.mem_cons, forall_eq_or_imp]
  constructor
  ·rintro ⟨h1, h2⟩; exact ⟨by omega, by omega, h2⟩
  ·rintro ⟨h1, h2, h3⟩; exact ⟨by omega, h3⟩
/-- An offset lies in the range exactly if it fits all. -/
theorem com_iff {r : List S85} {o : Int} (ho : -20000 ≤ o ∧ o ≤ 20000) : ((com r).1 ≤ o ∧ o ≤ (com r).2) ↔ ∀ t ∈ r, ft o t = true := by
 unfold com ft
 rw [cmx_le, le_cmn]
 simp only [decide_eq_true_eq]
 constructor
 ·rintro ⟨⟨_, h1⟩, ⟨_, h2⟩⟩ t ht; exact ⟨h1 t ht, h2 t ht⟩
 ·intro h; exact ⟨⟨ho.1, fun t ht => (h t ht).1⟩, ⟨ho.2, fun t ht => (h t ht).2⟩⟩
theorem com_in {r : List S85} (h0 : r ≠ []) (hk : ∀ t ∈ r, okR t) : (-3000 ≤ (com r).1 ∧ (com r).1 ≤ 3000) ∧ (-3000 ≤ (com r).2 ∧ (com r).2 ≤ 3000) := by
  cases r with
  | nil => exact absurd rfl h0
  | cons t q =>
    have ht := o_in (hk t List.mem_cons_self)
    have a1 : (com (t :: q)).1 ≤ 3000 := (cmx_le _ _ _).2 ⟨by omega, fun x hx => by have := o_in (hk x hx); omega⟩
    have a2 : -3000 ≤ (com (t :: q)).2 := (le_cmn _ _ _).2 ⟨by omega, fun x hx => by have := o_in (hk x hx); omega⟩
    have a3 : oLo t ≤ (com (t :: q)).1 := ((cmx_le (t :: q) (-20000) _).1 (Int.le_refl _)).2 t List.mem_cons_self
    have a4 : (com (t :: q)).2 ≤ oHi t := ((le_cmn (t :: q) 20000 _).1 (Int.le_refl _)).2 t List.mem_cons_self
    omega
theorem OffsetIn_ev (l : List S85) : Ev (fun k => L_OffsetIn.f k l) (if rsE l = 0 then (if (com l).1 ≤ (com l).2 then ((com l).1, (com l).2, 0) else (0, 0, 12)) else (0, 0, rsE l)) := by
 unfold L_OffsetIn.f
 refine Ev.bind (readingsErr_ev l) ?_
 by_cases h : rsE l = 0
 ·obtain ⟨h1, h2, h3⟩ := readings_ok h
  simp only [h, if_true]
  refine Ev.bind (common_ev l (by intro e; rw [e] at h1; simp at h1) (by omega) h3) ?_
  by_cases hc : (com l).1 ≤ (com l).2
  ·simp only [hc, decide_true, if_true]; exact Ev.some
  ·simp only [hc, decide_false, if_false, Bool.false_eq_true]; exact Ev.some
 ·simp only [h, if_false]; exact Ev.some

theorem Has_l0 (l : List Int) (x : Int) (hl : l.length < 4611686018427387904) : ∀ (n i : Nat), i + n = l.length → Ev (fun k => Bs_Has.l0 k l x (i : Int)) (decide (x ∈ l.drop i))
 | 0, i, h => by
  refine Ev.succ (f := fun k => Bs_Has.l0 k l x (i : Int)) ?_
  simp only [Bs_Has.l0, show ¬ (i : Int) < (l.length : Int) by omega, if_false]
  rw [show l.drop i = [] from List.drop_eq_nil_of_le (by omega)]
  simp only [List.not_mem_nil, decide_false]
  exact Ev.some
 | n + 1, i, h => by
  refine Ev.succ (f := fun k => Bs_Has.l0 k l x (i : Int)) ?_
  simp only [Bs_Has.l0, show (i : Int) < (l.length : Int) by omega, show (0 : Int) ≤ (i : Int) by omega, if_true, up (show i < 4611686018427387904 by omega)]
  have ih := Has_l0 l x hl n (i + 1) (by omega)
  rw [drop_rd (show i < l.length by omega)]
  by_cases e : rd l (i : Int) = x
  ·simp only [e, if_true, List.mem_cons, true_or, decide_true]; exact Ev.some
  ·have e' : ¬ x = rd l (i : Int) := fun h => e h.symm
   simp only [e, e', if_false, List.mem_cons, false_or]; exact ih
theorem Has_ev (l : List Int) (x : Int) (hl : l.length < 4611686018427387904) : Ev (fun k => Bs_Has.f k l x) (decide (x ∈ l)) := by
 have := Has_l0 l x hl l.length 0 (by omega)
 simpa [Bs_Has.f] using this
/-- The elements from index i on whose index is chosen. -/
def sel (P : Nat → Bool) : Nat → List S85 → List S85
 | _, [] => []
 | i, t :: r => if P i = true then t :: sel P (i + 1) r else sel P (i + 1) r
theorem Common_l0 (l : List S85) (hl : l.length < 4611686018427387904) (hk : ∀ t ∈ l, okR t) (w : List Int) (hw : w.length < 4611686018427387904) : ∀ (n i : Nat) (a b : Int), i + n = l.length →
  Ev (fun k => Rf_Common.l0 k l w (i : Int) a b) (cmx (sel (fun j => !decide ((j : Int) ∈ w)) i (l.drop i)) a, cmn (sel (fun j => !decide ((j : Int) ∈ w)) i (l.drop i)) b, decide (cmx (sel (fun j => !decide ((j : Int) ∈ w)) i (l.drop i)) a ≤ cmn (sel (fun j => !decide ((j : Int) ∈ w)) i (l.drop i)) b))
 | 0, i, a, b, h => by
  refine Ev.succ (f := fun k => Rf_Common.l0 k l w (i : Int) a b) ?_
  simp only [Rf_Common.l0, show ¬ (i : Int) < (l.length : Int) by omega, if_false]
  rw [show l.drop i = [] from List.drop_eq_nil_of_le (by omega)]
  exact Ev.some
 | n + 1, i, a, b, h => by
  refine Ev.succ (f := fun k => Rf_Common.l0 k l w (i : Int) a b) ?_
  have hi : i < l.length := by omega
  have ih := fun a b => Common_l0 l hl hk w hw n (i + 1) a b (by omega)
  rw [rd85_drop hi]
  simp only [Rf_Common.l0, show (i : Int) < (l.length : Int) by omega, show (0 : Int) ≤ (i : Int) by omega, if_true, Offsets_eq (hk _ (rd85_mem hi)), Option.bind_some, up (show i < 4611686018427387904 by omega), mx_eq, mn_eq, sel]
  refine Ev.bind (Has_ev w (i : Int) hw) ?_
  by_cases c : (i : Int) ∈ w
  ·simp only [c, decide_true, Bool.not_true, Bool.false_eq_true, if_true, if_false]; exact ih a b
  ·simp only [c, decide_false, Bool.not_false, Bool.false_eq_true, if_true, if_false, cmx, cmn]; exact ih _ _
theorem Common_ev (l : List S85) (hl : l.length < 4611686018427387904) (hk : ∀ t ∈ l, okR t) (w : List Int) (hw : w.length < 4611686018427387904) (r : List S85) (hr : sel (fun j => !decide ((j : Int) ∈ w)) 0 l = r) : Ev (fun k => Rf_Common.f k l w) ((com r).1, (com r).2, decide ((com r).1 ≤ (com r).2)) := by
 have := Common_l0 l hl hk w hw l.length 0 (-20000) 20000 (by omega)
 rw [List.drop_zero, hr] at this
 exact this
theorem sel_congr {P Q : Nat → Bool} : ∀ (l : List S85) (i : Nat), (∀ j, i ≤ j → j < i + l.length → P j = Q j) → sel P i l = sel Q i l
 | [], _, _ => rfl
 | t :: r, i, h => by
  have ih := sel_congr r (i + 1) (fun j h1 h2 => h j (by omega) (by simp; omega))
  simp only [sel, h i (by omega) (by simp), ih]
theorem sel_filter {P : Nat → Bool} {f : S85 → Bool} : ∀ (l : List S85) (i : Nat), (∀ j t, l[j]? = some t → P (i + j) = f t) → sel P i l = l.filter f
 | [], _, _ => rfl
 | t :: r, i, h => by
  have h0 := h 0 t rfl
  have ih := sel_filter (P := P) (f := f) r (i + 1) (fun j u hu => by rw [← h (j + 1) u (by simpa using hu)]; congr 1; omega)
  simp only [sel, List.filter_cons, ih]
  rw [show P i = f t from h0]
theorem sel_mem {P : Nat → Bool} : ∀ (l : List S85) (i : Nat) (t : S85), t ∈ sel P i l → t ∈ l
 | [], _, t, h => by cases h
 | u :: r, i, t, h => by
  unfold sel at h
  split at h
  ·rcases List.mem_cons.1 h with rfl | h
   ·exact List.mem_cons_self
   ·exact List.mem_cons_of_mem _ (sel_mem r (i + 1) t h)
  ·exact List.mem_cons_of_mem _ (sel_mem r (i + 1) t h)

theorem fitted1_eq {t : S85} (h : okR t) (o : Int) : L_fitted_1.f t.f0 t.f1 t.f2 o = some (!ft o t) := by
 unfold L_fitted_1.f ft
 rw [offsets_eq h]
 simp only [Option.bind_some, within_eq]
theorem idx_l0 (l : List S85) (hl : l.length < 4611686018427387904) (hk : ∀ t ∈ l, okR t) (o : Int) : ∀ (n i : Nat), i + n = l.length →
    (Ev (fun k => TR_158.l0 k l o (l.length : Int) (i : Int)) (-1) ∧ (l.drop i).filter (ft o) = l.drop i) ∨
    (∃ j, i ≤ j ∧ j < l.length ∧ Ev (fun k => TR_158.l0 k l o (l.length : Int) (i : Int)) (j : Int) ∧ (l.drop i).filter (ft o) = (l.drop i).take (j - i) ++ (l.drop (j + 1)).filter (ft o))
  | 0, i, h => by
    refine .inl ⟨?_, ?_⟩
    · refine Ev.succ (f := fun k => TR_158.l0 k l o (l.length : Int) (i : Int)) ?_
      simp only [TR_158.l0, show ¬ (i : Int) < (l.length : Int) by omega, if_false]
      exact Ev.some
    · rw [show l.drop i = [] from List.drop_eq_nil_of_le (by omega)]; rfl
  | n + 1, i, h => by
    have hi : i < l.length := by omega
    have ih := idx_l0 l hl hk o n (i + 1) (by omega)
    have hE : ∀ r : Int, (ft o (rd_T85 l (i : Int)) = true → Ev (fun k => TR_158.l0 k l o (l.length : Int) ((i + 1 : Nat) : Int)) r) → (ft o (rd_T85 l (i : Int)) = false → r = (i : Int)) → Ev (fun k => TR_158.l0 k l o (l.length : Int) (i : Int)) r := by
      intro r h1 h2
      refine Ev.succ (f := fun k => TR_158.l0 k l o (l.length : Int) (i : Int)) ?_
      simp only [TR_158.l0, show (i : Int) < (l.length : Int) by omega, show (0 : Int) ≤ (i : Int) by omega, if_true, fitted1_eq (hk _ (rd85_mem hi)), Option.bind_some, up (show i < 4611686018427387904 by omega)]
      cases hb : ft o (rd_T85 l (i : Int)) with
      | true => simp only [Bool.not_true, Bool.false_eq_true, if_false]; exact h1 hb
      | false => simp only [Bool.not_false, if_true]; rw [h2 hb]; exact Ev.some
    cases hb : ft o (rd_T85 l (i : Int)) with
    | true =>
      rcases ih with ⟨e1, e2⟩ | ⟨j, j1, j2, e1, e2⟩
      · refine .inl ⟨hE _ (fun _ => e1) (fun hc => by rw [hb] at hc; cases hc), ?_⟩
        rw [rd85_drop hi, List.filter_cons, if_pos hb, e2]
      · refine .inr ⟨j, by omega, j2, hE _ (fun _ => e1) (fun hc => by rw [hb] at hc; cases hc), ?_⟩
        rw [rd85_drop hi, List.filter_cons, if_pos hb, e2, show j - i = (j - (i + 1)) + 1 by omega, List.take_succ_cons, List.cons_append]
    | false =>
      refine .inr ⟨i, by omega, hi, hE _ (fun hc => by rw [hb] at hc; cases hc) (fun _ => rfl), ?_⟩
      rw [rd85_drop hi, List.filter_cons, if_neg (by rw [hb]; decide), Nat.sub_self]
      rfl
theorem del_l0 (o : Int) (N : Nat) (hN : N < 4611686018427387904) : ∀ (n i j : Nat) (x : List S85), j + n = N → x.length = N → i < j → (∀ t ∈ x, okR t) → Ev (fun k => TR_141.l0 k x o (i : Int) (j : Int)) (x.take i ++ (x.drop j).filter (ft o))
 | 0, i, j, x, h, hx, hij, _ => by
  refine Ev.succ (f := fun k => TR_141.l0 k x o (i : Int) (j : Int)) ?_
  simp only [TR_141.l0, show ¬ (j : Int) < (x.length : Int) by omega, if_false, show (0 : Int) ≤ (i : Int) by omega, show (i : Int) ≤ (x.length : Int) by omega, if_true, Int.toNat_natCast]
  rw [show x.drop j = [] from List.drop_eq_nil_of_le (by omega)]
  simp only [List.filter_nil, List.append_nil]
  exact Ev.some
 | n + 1, i, j, x, h, hx, hij, hk => by
  refine Ev.succ (f := fun k => TR_141.l0 k x o (i : Int) (j : Int)) ?_
  have hj : j < x.length := by omega
  simp only [TR_141.l0, show (j : Int) < (x.length : Int) by omega, show (0 : Int) ≤ (j : Int) by omega, show (0 : Int) ≤ (i : Int) by omega, show (i : Int) < (x.length : Int) by omega, if_true, fitted1_eq (hk _ (rd85_mem hj)), Option.bind_some, up (show j < 4611686018427387904 by omega), up (show i < 4611686018427387904 by omega), Int.toNat_natCast]
  rw [rd85_drop hj, List.filter_cons]
  cases hb : ft o (rd_T85 x (j : Int)) with
  | false =>
   simp only [Bool.not_false, if_true, Bool.false_eq_true, if_false]
   exact del_l0 o N hN n i (j + 1) x (by omega) hx (by omega) hk
  | true =>
   simp only [Bool.not_true, if_true, Bool.false_eq_true, if_false]
   have hv := hk _ (rd85_mem hj)
   have e : (⟨(rd_T85 x (j : Int)).f0, (rd_T85 x (j : Int)).f1, (rd_T85 x (j : Int)).f2⟩ : S85) = rd_T85 x (j : Int) := rfl
   rw [e]
   have ih := del_l0 o N hN n (i + 1) (j + 1) (x.set i (rd_T85 x (j : Int))) (by omega) (by simpa using hx) (by omega) (fun t ht => by
    rcases List.mem_or_eq_of_mem_set ht with ht | rfl
    ·exact hk t ht
    ·exact hv)
   rw [List.drop_set_of_lt (by omega), List.take_succ_eq_append_getElem (by simp; omega), List.take_set_of_le (Nat.le_refl _)] at ih
   simp only [List.getElem_set_self, List.append_assoc, List.singleton_append] at ih
   exact ih
theorem fitted_ev (l : List S85) (hl : l.length ≤ 8) (hk : ∀ t ∈ l, okR t) (o : Int) : Ev (fun k => L_fitted.f k l o) (l.filter (ft o)) := by
 unfold L_fitted.f TR_142.f
 simp only [List.length_nil, Option.bind_some, show 0 + l.length < 5864062014805 by omega, if_true, List.nil_append]
 refine Ev.bind (a := l.filter (ft o)) ?_ Ev.some
 unfold TR_141.f
 rcases idx_l0 l (by omega) hk o l.length 0 (by omega) with ⟨e1, e2⟩ | ⟨j, j1, j2, e1, e2⟩
 ·refine Ev.bind (a := -1) e1 ?_
  rw [List.drop_zero] at e2
  simp only [if_true, e2]; exact Ev.some
 ·refine Ev.bind (a := (j : Int)) e1 ?_
  rw [List.drop_zero, Nat.sub_zero] at e2
  simp only [show ¬ (j : Int) = -1 by omega, if_false, up (show j < 4611686018427387904 by omega), e2]
  exact del_l0 o l.length (by omega) (l.length - (j + 1)) j (j + 1) l (by omega) rfl (by omega) hk
/-- The indexes from i on of the readings that an offset fits. -/
def vix (o : Int) : Nat → List S85 → List Int
 | _, [] => []
 | i, t :: r => if ft o t = true then (i : Int) :: vix o (i + 1) r else vix o (i + 1) r
theorem vix_len (o : Int) : ∀ (l : List S85) (i : Nat), (vix o i l).length = (l.filter (ft o)).length
 | [], _ => rfl
 | t :: r, i => by
  have ih := vix_len o r (i + 1)
  simp only [vix, List.filter_cons]
  split <;> simp [ih]
theorem mem_vix (o : Int) : ∀ (l : List S85) (i : Nat) (x : Int), x ∈ vix o i l ↔ ∃ j t, l[j]? = some t ∧ ft o t = true ∧ x = ((i + j : Nat) : Int)
  | [], _, x => by simp [vix]
  | t :: r, i, x => by
    have ih := mem_vix o r (i + 1) x
    have key : (∃ j u, (t :: r)[j]? = some u ∧ ft o u = true ∧ x = ((i + j : Nat) : Int)) ↔ (ft o t = true ∧ x = (i : Int)) ∨ ∃ j u, r[j]? = some u ∧ ft o u = true ∧ x = ((i + 1 + j : Nat) : Int) := by
      constructor
      · rintro ⟨j, u, h1, h2, h3⟩
        cases j with
        | zero => simp only [List.getElem?_cons_zero, Option.some.injEq] at h1; subst h1; exact .inl ⟨h2, by simpa using h3⟩
        | succ j => exact .inr ⟨j, u, by simpa using h1, h2, by rw [h3]; omega⟩
      · rintro (⟨h1, h2⟩ | ⟨j, u, h1, h2, h3⟩)
        · exact ⟨0, t, rfl, h1, by simpa using h2⟩
        · exact ⟨j + 1, u, by simpa using h1, h2, by rw [h3]; omega⟩
    rw [key]
    unfold vix
    by_cases c : ft o t = true
    · rw [if_pos c, List.mem_cons, ih]
      simp only [c, true_and]
    · rw [if_neg c, ih]
      simp only [c, false_and, false_or, Bool.false_eq_true]
theorem votes_l0 (l : List S85) (hl : l.length ≤ 8) (hk : ∀ t ∈ l, okR t) (o : Int) : ∀ (n i : Nat) (acc : List Int), i + n = l.length → acc.length ≤ i → Ev (fun k => Rf_votes.l0 k l o acc (i : Int)) (acc ++ vix o i (l.drop i))
 | 0, i, acc, h, _ => by
  refine Ev.succ (f := fun k => Rf_votes.l0 k l o acc (i : Int)) ?_
  simp only [Rf_votes.l0, show ¬ (i : Int) < (l.length : Int) by omega, if_false]
  rw [show l.drop i = [] from List.drop_eq_nil_of_le (by omega)]
  simp only [vix, List.append_nil]
  exact Ev.some
 | n + 1, i, acc, h, ha => by
  refine Ev.succ (f := fun k => Rf_votes.l0 k l o acc (i : Int)) ?_
  have hi : i < l.length := by omega
  have ih := fun acc => votes_l0 l hl hk o n (i + 1) acc (by omega)
  rw [rd85_drop hi]
  simp only [Rf_votes.l0, show (i : Int) < (l.length : Int) by omega, show (0 : Int) ≤ (i : Int) by omega, if_true, Offsets_eq (hk _ (rd85_mem hi)), Option.bind_some, up (show i < 4611686018427387904 by omega), show acc.length < 17592186044416 by omega, vix]
  unfold ft
  by_cases c1 : oLo (rd_T85 l (i : Int)) ≤ o
  ·by_cases c2 : o ≤ oHi (rd_T85 l (i : Int))
   ·simp only [c1, c2, and_self, decide_true, if_true]
    have := ih (acc ++ [(i : Int)]) (by simp; omega)
    rw [List.append_assoc] at this
    exact this
   ·simp only [c1, c2, and_false, decide_false, if_true, if_false, Bool.false_eq_true]; exact ih acc (by omega)
  ·simp only [c1, false_and, decide_false, if_false, Bool.false_eq_true]; exact ih acc (by omega)
theorem votes_ev (l : List S85) (hl : l.length ≤ 8) (hk : ∀ t ∈ l, okR t) (o : Int) : Ev (fun k => Rf_votes.f k l o) (vix o 0 l) := by
 have := votes_l0 l hl hk o l.length 0 [] (by omega) (by simp)
 simpa [Rf_votes.f] using this
/-- How many readings an offset fits. -/
def ct (l : List S85) (o : Int) : Nat := (l.filter (ft o)).length
/-- The offset that is voted for so far, and its votes. -/
def vstep (l : List S85) (s : Int × Nat) (t : S85) : Int × Nat :=
 if ct l (oLo t) > s.2 then (oLo t, ct l (oLo t)) else if ct l (oLo t) = s.2 then (if oLo t < s.1 then (oLo t, ct l (oLo t)) else s) else s
def vote (l r : List S85) (s : Int × Nat) : Int × Nat := r.foldl (vstep l) s
/-- What is known of the state: it is the start, or an offset of a reading with its votes. -/
def VS (l : List S85) (s : Int × Nat) : Prop := s = (0, 0) ∨ (s.2 = ct l s.1 ∧ 1 ≤ s.2 ∧ ∃ t ∈ l, s.1 = oLo t)
def bestOf (l : List S85) (s : Int × Nat) : List S85 := if s.2 = 0 then [] else l.filter (ft s.1)
theorem ft_self {t : S85} (h : okR t) : ft (oLo t) t = true := by have := o_in h; unfold ft; exact decide_eq_true ⟨by omega, by omega⟩
theorem ct_self {l : List S85} (hk : ∀ t ∈ l, okR t) {t : S85} (ht : t ∈ l) : 1 ≤ ct l (oLo t) := by
 unfold ct
 exact List.length_pos_of_mem (List.mem_filter.2 ⟨ht, ft_self (hk t ht)⟩)
theorem vstep_VS {l : List S85} (hk : ∀ t ∈ l, okR t) {s : Int × Nat} (hs : VS l s) {t : S85} (ht : t ∈ l) : VS l (vstep l s t) := by
 have h1 := ct_self hk ht
 unfold vstep
 split
 ·exact .inr ⟨rfl, h1, t, ht, rfl⟩
 ·split
  ·split
   ·exact .inr ⟨rfl, h1, t, ht, rfl⟩
   ·exact hs
  ·exact hs
theorem bestOf_len {l : List S85} {s : Int × Nat} (hs : VS l s) : (bestOf l s).length = s.2 := by
 unfold bestOf
 rcases hs with rfl | ⟨h1, h2, _⟩
 ·rfl
 ·rw [if_neg (by omega), h1]; rfl
theorem bestOf_new {l : List S85} (hk : ∀ t ∈ l, okR t) {t : S85} (ht : t ∈ l) : bestOf l (oLo t, ct l (oLo t)) = l.filter (ft (oLo t)) := by
 have := ct_self hk ht
 unfold bestOf
 rw [if_neg (show ¬ ct l (oLo t) = 0 by omega)]
theorem VotedIn_l0 (l : List S85) (hl : l.length ≤ 8) (hk : ∀ t ∈ l, okR t) : ∀ (n i : Nat) (s : Int × Nat), i + n = l.length → VS l s → vote l (l.drop i) s ≠ (0, 0) →
  Ev (fun k => L_VotedIn.l0 k l (bestOf l s) s.1 l (l.length : Int) (i : Int)) ((com (bestOf l (vote l (l.drop i) s))).1, (com (bestOf l (vote l (l.drop i) s))).2, ((vote l (l.drop i) s).2 : Int), 0)
 | 0, i, s, h, hs, hne => by
  refine Ev.succ (f := fun k => L_VotedIn.l0 k l (bestOf l s) s.1 l (l.length : Int) (i : Int)) ?_
  rw [show l.drop i = [] from List.drop_eq_nil_of_le (by omega)] at hne ⊢
  have e : vote l [] s = s := rfl
  rw [e] at hne ⊢
  simp only [L_VotedIn.l0, show ¬ (i : Int) < (l.length : Int) by omega, if_false]
  have hlen := bestOf_len hs
  have hpos : 1 ≤ s.2 := by
   rcases hs with h | h
   ·exact absurd h hne
   ·exact h.2.1
  have hb : bestOf l s ≠ [] := by intro e; rw [e] at hlen; simp at hlen; omega
  have hkb : ∀ t ∈ bestOf l s, okR t := by
   intro t ht
   unfold bestOf at ht
   rw [if_neg (by omega)] at ht
   exact hk t (List.mem_filter.1 ht).1
  have hll : (bestOf l s).length ≤ l.length := by
   unfold bestOf
   split
   ·simp
   ·exact List.length_filter_le _ _
  refine Ev.bind (common_ev _ hb (by omega) hkb) ?_
  rw [hlen]
  exact Ev.some
 | n + 1, i, s, h, hs, hne => by
  refine Ev.succ (f := fun k => L_VotedIn.l0 k l (bestOf l s) s.1 l (l.length : Int) (i : Int)) ?_
  have hi : i < l.length := by omega
  have hm := rd85_mem hi
  obtain ⟨t, ht0⟩ : ∃ t, t = rd_T85 l (i : Int) := ⟨_, rfl⟩
  rw [rd85_drop hi, ← ht0] at hne ⊢
  rw [← ht0] at hm
  have e : vote l (t :: l.drop (i + 1)) s = vote l (l.drop (i + 1)) (vstep l s t) := rfl
  rw [e] at hne ⊢
  have ih := VotedIn_l0 l hl hk n (i + 1) (vstep l s t) (by omega) (vstep_VS hk hs hm) hne
  have hlen := bestOf_len hs
  have hb := bestOf_new hk hm
  simp only [L_VotedIn.l0, show (i : Int) < (l.length : Int) by omega, show (0 : Int) ≤ (i : Int) by omega, if_true, ← ht0, offsets_eq (hk _ hm), Option.bind_some, up (show i < 4611686018427387904 by omega), hlen]
  refine Ev.bind (fitted_ev l hl hk (oLo t)) ?_
  have hc : (l.filter (ft (oLo t))).length = ct l (oLo t) := rfl
  rw [hc]
  by_cases c1 : ct l (oLo t) > s.2
  ·have hv : vstep l s t = (oLo t, ct l (oLo t)) := by unfold vstep; rw [if_pos c1]
   rw [hv, hb] at ih
   rw [hv]
   simp only [show ((ct l (oLo t) : Nat) : Int) > (s.2 : Int) by omega, if_true]
   exact ih
  ·have p1 : ¬ ((ct l (oLo t) : Nat) : Int) > (s.2 : Int) := by omega
   by_cases c2 : ct l (oLo t) = s.2
   ·have p2 : (((ct l (oLo t) : Nat) : Int) = (s.2 : Int)) = True := eq_true (by omega)
    by_cases c3 : oLo t < s.1
    ·have hv : vstep l s t = (oLo t, ct l (oLo t)) := by unfold vstep; rw [if_neg c1, if_pos c2, if_pos c3]
     rw [hv, hb] at ih
     rw [hv]
     simp only [p1, p2, c3, if_true, if_false]
     exact ih
    ·have hv : vstep l s t = s := by unfold vstep; rw [if_neg c1, if_pos c2, if_neg c3]
     rw [hv] at ih ⊢
     simp only [p1, p2, c3, if_true, if_false]
     exact ih
   ·have p2 : ¬ ((ct l (oLo t) : Nat) : Int) = (s.2 : Int) := by omega
    have hv : vstep l s t = s := by unfold vstep; rw [if_neg c1, if_neg c2]
    rw [hv] at ih ⊢
    simp only [p1, p2, if_false]
    exact ih
/-- The readings that are not voted for, by their indexes. -/
theorem Voted_l1 (l : List S85) (hl : l.length ≤ 8) (hk : ∀ t ∈ l, okR t) (own : List Int) (ho : own.length ≤ 8) (c : Int) (r : List S85) (hr : ∀ w : List Int, (∀ j : Nat, j < l.length → ((j : Int) ∈ w ↔ ¬ (j : Int) ∈ own)) → sel (fun j => !decide ((j : Int) ∈ w)) 0 l = r) : ∀ (n i : Nat) (w : List Int), i + n = l.length → w.length ≤ i → (∀ x ∈ w, ∃ j : Nat, x = (j : Int) ∧ j < i ∧ ¬ (j : Int) ∈ own) → (∀ j : Nat, j < i → ¬ (j : Int) ∈ own → (j : Int) ∈ w) →
  Ev (fun k => Rf_Voted.l1 k l c own w (i : Int)) ((com r).1, (com r).2, c)
 | 0, i, w, h, hw, h1, h2 => by
  refine Ev.succ (f := fun k => Rf_Voted.l1 k l c own w (i : Int)) ?_
  simp only [Rf_Voted.l1, show ¬ (i : Int) < (l.length : Int) by omega, if_false]
  refine Ev.bind (Common_ev l (by omega) hk w (by omega) r (hr w fun j hj => ⟨fun hm => ?_, fun hm => h2 j (by omega) hm⟩)) ?_
  ·obtain ⟨j', e, _, h3⟩ := h1 _ hm
   rw [show j = j' by omega]; exact h3
  ·exact Ev.some
 | n + 1, i, w, h, hw, h1, h2 => by
  refine Ev.succ (f := fun k => Rf_Voted.l1 k l c own w (i : Int)) ?_
  simp only [Rf_Voted.l1, show (i : Int) < (l.length : Int) by omega, if_true, show w.length < 17592186044416 by omega, up (show i < 4611686018427387904 by omega)]
  refine Ev.bind (Has_ev own (i : Int) (by omega)) ?_
  by_cases c1 : (i : Int) ∈ own
  ·simp only [c1, decide_true, if_true]
   refine Voted_l1 l hl hk own ho c r hr n (i + 1) w (by omega) (by omega) (fun x hx => ?_) (fun j hj hn => ?_)
   ·obtain ⟨j, e, e2, e3⟩ := h1 x hx; exact ⟨j, e, by omega, e3⟩
   ·by_cases e : j = i
    ·subst e; exact absurd c1 hn
    ·exact h2 j (by omega) hn
  ·simp only [c1, decide_false, Bool.false_eq_true, if_false]
   refine Voted_l1 l hl hk own ho c r hr n (i + 1) (w ++ [(i : Int)]) (by omega) (by simp; omega) (fun x hx => ?_) (fun j hj hn => ?_)
   ·rcases List.mem_append.1 hx with hx | hx
    ·obtain ⟨j, e, e2, e3⟩ := h1 x hx; exact ⟨j, e, by omega, e3⟩
    ·exact ⟨i, List.mem_singleton.1 hx, by omega, c1⟩
   ·by_cases e : j = i
    ·subst e; simp
    ·exact List.mem_append_left _ (h2 j (by omega) hn)
theorem Voted_l0 (l : List S85) (hl : l.length ≤ 8) (hk : ∀ t ∈ l, okR t) : ∀ (n i : Nat) (s : Int × Nat), i + n = l.length → VS l s → vote l (l.drop i) s ≠ (0, 0) →
  Ev (fun k => Rf_Voted.l0 k l (s.2 : Int) s.1 (i : Int)) ((com (bestOf l (vote l (l.drop i) s))).1, (com (bestOf l (vote l (l.drop i) s))).2, ((vote l (l.drop i) s).2 : Int))
 | 0, i, s, h, hs, hne => by
  refine Ev.succ (f := fun k => Rf_Voted.l0 k l (s.2 : Int) s.1 (i : Int)) ?_
  rw [show l.drop i = [] from List.drop_eq_nil_of_le (by omega)] at hne ⊢
  have e : vote l [] s = s := rfl
  rw [e] at hne ⊢
  simp only [Rf_Voted.l0, show ¬ (i : Int) < (l.length : Int) by omega, if_false]
  have hpos : 1 ≤ s.2 := by
   rcases hs with h | h
   ·exact absurd h hne
   ·exact h.2.1
  refine Ev.bind (votes_ev l hl hk s.1) ?_
  have hvl : (vix s.1 0 l).length ≤ 8 := by rw [vix_len]; exact Nat.le_trans (List.length_filter_le _ _) hl
  have := Voted_l1 l hl hk (vix s.1 0 l) hvl (s.2 : Int) (bestOf l s) (fun w hw => by
   unfold bestOf
   rw [if_neg (by omega)]
   refine sel_filter l 0 (fun j t hj => ?_)
   have hjl : j < l.length := (List.getElem?_eq_some_iff.1 hj).1
   have h1 := hw j hjl
   rw [mem_vix] at h1
   rw [Nat.zero_add]
   cases hf : ft s.1 t with
   | true =>
    have : ¬ (j : Int) ∈ w := fun hc => h1.1 hc ⟨j, t, hj, hf, by omega⟩
    simp only [this, decide_false, Bool.not_false]
   | false =>
    have : (j : Int) ∈ w := h1.2 (by
     rintro ⟨j', t', e1, e2, e3⟩
     have : j' = j := by omega
     subst this
     rw [hj] at e1
     cases e1
     rw [hf] at e2; cases e2)
    simp only [this, decide_true, Bool.not_true]) l.length 0 [] (by omega) (by simp) (fun x hx => by cases hx) (fun j hj => by omega)
  exact this
 | n + 1, i, s, h, hs, hne => by
  refine Ev.succ (f := fun k => Rf_Voted.l0 k l (s.2 : Int) s.1 (i : Int)) ?_
  have hi : i < l.length := by omega
  have hm := rd85_mem hi
  obtain ⟨t, ht0⟩ : ∃ t, t = rd_T85 l (i : Int) := ⟨_, rfl⟩
  rw [rd85_drop hi, ← ht0] at hne ⊢
  rw [← ht0] at hm
  have e : vote l (t :: l.drop (i + 1)) s = vote l (l.drop (i + 1)) (vstep l s t) := rfl
  rw [e] at hne ⊢
  have ih := Voted_l0 l hl hk n (i + 1) (vstep l s t) (by omega) (vstep_VS hk hs hm) hne
  simp only [Rf_Voted.l0, show (i : Int) < (l.length : Int) by omega, show (0 : Int) ≤ (i : Int) by omega, if_true, ← ht0, Offsets_eq (hk _ hm), Option.bind_some, up (show i < 4611686018427387904 by omega)]
  refine Ev.bind (votes_ev l hl hk (oLo t)) ?_
  have hc : (vix (oLo t) 0 l).length = ct l (oLo t) := vix_len _ _ _
  rw [hc]
  by_cases c1 : ct l (oLo t) > s.2
  ·have hv : vstep l s t = (oLo t, ct l (oLo t)) := by unfold vstep; rw [if_pos c1]
   rw [hv] at ih
   rw [hv]
   simp only [show ((ct l (oLo t) : Nat) : Int) > (s.2 : Int) by omega, if_true]
   exact ih
  ·have p1 : ¬ ((ct l (oLo t) : Nat) : Int) > (s.2 : Int) := by omega
   by_cases c2 : ct l (oLo t) = s.2
   ·have p2 : (((ct l (oLo t) : Nat) : Int) = (s.2 : Int)) = True := eq_true (by omega)
    by_cases c3 : oLo t < s.1
    ·have hv : vstep l s t = (oLo t, ct l (oLo t)) := by unfold vstep; rw [if_neg c1, if_pos c2, if_pos c3]
     rw [hv] at ih
     rw [hv]
     simp only [p1, p2, c3, if_true, if_false]
     exact ih
    ·have hv : vstep l s t = s := by unfold vstep; rw [if_neg c1, if_pos c2, if_neg c3]
     rw [hv] at ih ⊢
     simp only [p1, p2, c3, if_true, if_false]
     exact ih
   ·have p2 : ¬ ((ct l (oLo t) : Nat) : Int) = (s.2 : Int) := by omega
    have hv : vstep l s t = s := by unfold vstep; rw [if_neg c1, if_neg c2]
    rw [hv] at ih ⊢
    simp only [p1, p2, if_false]
    exact ih
/-- The votes: the state after all readings. -/
def vt (l : List S85) : Int × Nat := vote l l (0, 0)
/-- Later states have at least the votes, and with as many no greater offset. -/
theorem vote_le (l : List S85) : ∀ (r : List S85) (s : Int × Nat), s.2 ≤ (vote l r s).2 ∧ (s.2 = (vote l r s).2 → (vote l r s).1 ≤ s.1)
 | [], s => ⟨Nat.le_refl _, fun _ => Int.le_refl _⟩
 | t :: r, s => by
  have ih := vote_le l r (vstep l s t)
  have h1 : s.2 ≤ (vstep l s t).2 ∧ (s.2 = (vstep l s t).2 → (vstep l s t).1 ≤ s.1) := by
   unfold vstep
   split
   ·exact ⟨by simp; omega, fun h => by simp at h; omega⟩
   ·split
    ·split
     ·exact ⟨by simp; omega, fun _ => by simp; omega⟩
     ·exact ⟨Nat.le_refl _, fun _ => Int.le_refl _⟩
    ·exact ⟨Nat.le_refl _, fun _ => Int.le_refl _⟩
  have e : vote l (t :: r) s = vote l r (vstep l s t) := rfl
  rw [e]
  refine ⟨by omega, fun h => ?_⟩
  have := ih.2 (by omega)
  have := h1.2 (by omega)
  omega
theorem vote_all (l : List S85) : ∀ (r : List S85) (s : Int × Nat) (t : S85), t ∈ r → ct l (oLo t) ≤ (vote l r s).2 ∧ (ct l (oLo t) = (vote l r s).2 → (vote l r s).1 ≤ oLo t)
 | [], s, t, h => by cases h
 | u :: r, s, t, h => by
  have e : vote l (u :: r) s = vote l r (vstep l s u) := rfl
  rw [e]
  rcases List.mem_cons.1 h with rfl | h
  ·have h1 := vote_le l r (vstep l s t)
   have h2 : ct l (oLo t) ≤ (vstep l s t).2 ∧ (ct l (oLo t) = (vstep l s t).2 → (vstep l s t).1 ≤ oLo t) := by
    unfold vstep
    split
    ·exact ⟨Nat.le_refl _, fun _ => Int.le_refl _⟩
    ·split
     ·split
      ·exact ⟨Nat.le_refl _, fun _ => Int.le_refl _⟩
      ·exact ⟨by omega, fun _ => by omega⟩
     ·exact ⟨by omega, fun h => by omega⟩
   refine ⟨by omega, fun h => ?_⟩
   have := h1.2 (by omega)
   have := h2.2 (by omega)
   omega
  ·exact vote_all l r _ t h
theorem vote_VS {l : List S85} (hk : ∀ t ∈ l, okR t) : ∀ (r : List S85) (s : Int × Nat), (∀ t ∈ r, t ∈ l) → VS l s → VS l (vote l r s)
 | [], s, _, hs => hs
 | t :: r, s, hr, hs => vote_VS hk r (vstep l s t) (fun u hu => hr u (List.mem_cons_of_mem _ hu)) (vstep_VS hk hs (hr t List.mem_cons_self))
theorem vt_ok {l : List S85} (h0 : l ≠ []) (hk : ∀ t ∈ l, okR t) : (vt l).2 = ct l (vt l).1 ∧ 1 ≤ (vt l).2 ∧ ∃ t ∈ l, (vt l).1 = oLo t := by
  rcases vote_VS hk l (0, 0) (fun t ht => ht) (.inl rfl) with h | h
  · cases l with
    | nil => exact absurd rfl h0
    | cons t r =>
      have h1 := (vote_all (t :: r) (t :: r) (0, 0) t List.mem_cons_self).1
      rw [h] at h1
      have := ct_self hk (t := t) List.mem_cons_self
      simp at h1; omega
  · exact h
theorem vt_ne {l : List S85} (h0 : l ≠ []) (hk : ∀ t ∈ l, okR t) : vote l l (0, 0) ≠ (0, 0) := by
 intro e
 have := vt_ok h0 hk
 unfold vt at this
 rw [e] at this
 simp at this
/-- The readings that are voted for. -/
def vF (l : List S85) : List S85 := l.filter (ft (vt l).1)
theorem bestOf_vt {l : List S85} (h0 : l ≠ []) (hk : ∀ t ∈ l, okR t) : bestOf l (vt l) = vF l := by
 have := vt_ok h0 hk
 unfold bestOf vF
 rw [if_neg (by omega)]
theorem VotedIn_ok {l : List S85} (h : rsE l = 0) : Ev (fun k => L_VotedIn.f k l) ((com (vF l)).1, (com (vF l)).2, ((vt l).2 : Int), 0) ∧ Ev (fun k => Rf_Voted.f k l) ((com (vF l)).1, (com (vF l)).2, ((vt l).2 : Int)) := by
 obtain ⟨h1, h2, h3⟩ := readings_ok h
 have h0 : l ≠ [] := by intro e; rw [e] at h1; simp at h1
 have a := VotedIn_l0 l h2 h3 l.length 0 (0, 0) (by omega) (.inl rfl) (by rw [List.drop_zero]; exact vt_ne h0 h3)
 have b := Voted_l0 l h2 h3 l.length 0 (0, 0) (by omega) (.inl rfl) (by rw [List.drop_zero]; exact vt_ne h0 h3)
 rw [List.drop_zero] at a b
 have e : vote l l (0, 0) = vt l := rfl
 rw [e, bestOf_vt h0 h3] at a b
 refine ⟨?_, b⟩
 unfold L_VotedIn.f
 refine Ev.bind (readingsErr_ev l) ?_
 simp only [h, if_true]
 exact a
/-- Where an offset fits some readings, the greatest lower end of these fits them too. -/
theorem top_left {o : Int} : ∀ (r : List S85), r ≠ [] → (∀ t ∈ r, ft o t = true) → ∃ u ∈ r, oLo u ≤ o ∧ ∀ t ∈ r, ft (oLo u) t = true
 | [], h, _ => absurd rfl h
 | t :: r, _, h => by
  have ht := h t List.mem_cons_self
  unfold ft at ht
  rw [decide_eq_true_eq] at ht
  by_cases hr : r = []
  ·subst hr
   refine ⟨t, List.mem_cons_self, ht.1, fun x hx => ?_⟩
   rw [List.mem_singleton.1 hx]
   unfold ft; exact decide_eq_true ⟨Int.le_refl _, by omega⟩
  ·obtain ⟨u, hu, h1, h2⟩ := top_left r hr (fun x hx => h x (List.mem_cons_of_mem _ hx))
   by_cases c : oLo t ≤ oLo u
   ·refine ⟨u, List.mem_cons_of_mem _ hu, h1, fun x hx => ?_⟩
    rcases List.mem_cons.1 hx with rfl | hx
    ·unfold ft; exact decide_eq_true ⟨c, by omega⟩
    ·exact h2 x hx
   ·refine ⟨t, List.mem_cons_self, ht.1, fun x hx => ?_⟩
    rcases List.mem_cons.1 hx with rfl | hx
    ·unfold ft; exact decide_eq_true ⟨Int.le_refl _, by omega⟩
    ·have a := h x (List.mem_cons_of_mem _ hx)
     have b := h2 x hx
     unfold ft at a b ⊢
     rw [decide_eq_true_eq] at a b
     exact decide_eq_true ⟨by omega, by omega⟩
/-- No offset fits more readings than the votes; one that fits as many is no smaller. -/
theorem ct_le {l : List S85} (h0 : l ≠ []) (hk : ∀ t ∈ l, okR t) (o : Int) : ct l o ≤ (vt l).2 ∧ (ct l o = (vt l).2 → (vt l).1 ≤ o) := by
  have hv := vt_ok h0 hk
  by_cases he : l.filter (ft o) = []
  · unfold ct; rw [he]
    exact ⟨by simp, fun h => by simp at h; omega⟩
  · obtain ⟨u, hu, h1, h2⟩ := top_left (l.filter (ft o)) he (fun t ht => (List.mem_filter.1 ht).2)
    have hle : ct l o ≤ ct l (oLo u) := by
      unfold ct
      have hsub : l.filter (ft o) = (l.filter (ft (oLo u))).filter (ft o) := by
        rw [List.filter_filter]
        apply List.filter_congr
        intro t ht
        cases c : ft o t with
        | false => simp
        | true => rw [h2 t (List.mem_filter.2 ⟨ht, c⟩)]; rfl
      rw [hsub]; exact List.length_filter_le _ _
    have h3 := vote_all l l (0, 0) u (List.mem_filter.1 hu).1
    have e : vote l l (0, 0) = vt l := rfl
    rw [e] at h3
    refine ⟨by omega, fun h => ?_⟩
    have := h3.2 (by omega)
    omega
theorem bit_fin : ∀ s : Fin 256, ∀ i : Fin 8, (Go.bits .and .i64 (shr .i64 (s.val : Int) (i.val : Int)) 1 = 1) ↔ s.val.testBit i.val = true := by decide +kernel
theorem bit_eq {s i : Nat} (hs : s < 256) (hi : i < 8) : (Go.bits .and .i64 (shr .i64 (s : Int) (i : Int)) 1 = 1) ↔ s.testBit i = true := bit_fin ⟨s, hs⟩ ⟨i, hi⟩
theorem shl_fin : ∀ n : Fin 9, shl .i64 1 (n.val : Int) = ((2 ^ n.val : Nat) : Int) := by decide +kernel
theorem shl_eq {n : Nat} (hn : n ≤ 8) : shl .i64 1 (n : Int) = ((2 ^ n : Nat) : Int) := shl_fin ⟨n, by omega⟩
theorem pow_in {n : Nat} (h1 : 1 ≤ n) (hn : n ≤ 8) : 2 ≤ 2 ^ n ∧ 2 ^ n ≤ 256 := by
 have : ∀ k : Fin 9, 1 ≤ k.val → 2 ≤ 2 ^ k.val ∧ 2 ^ k.val ≤ 256 := by decide
 exact this ⟨n, by omega⟩ h1
theorem set_of (P : Nat → Bool) : ∀ n : Nat, ∃ s, s < 2 ^ n ∧ ∀ i, i < n → s.testBit i = P i
 | 0 => ⟨0, by simp, fun i hi => by omega⟩
 | n + 1 => by
  obtain ⟨s, h1, h2⟩ := set_of P n
  cases hp : P n with
  | false =>
   refine ⟨s, by rw [Nat.pow_succ]; omega, fun i hi => ?_⟩
   by_cases e : i = n
   ·subst e; rw [Nat.testBit_lt_two_pow h1, hp]
   ·exact h2 i (by omega)
  | true =>
   refine ⟨2 ^ n + s, by rw [Nat.pow_succ]; omega, fun i hi => ?_⟩
   by_cases e : i = n
   ·subst e; rw [Nat.testBit_two_pow_add_eq, Nat.testBit_lt_two_pow h1, hp]; rfl
   ·rw [Nat.testBit_two_pow_add_gt (by omega)]; exact h2 i (by omega)
theorem set_not_all {n s i : Nat} (hs : s < 2 ^ n) (hi : i < n) (hb : s.testBit i = false) : s < 2 ^ n - 1 := by
 by_cases e : s = 2 ^ n - 1
 ·rw [e, Nat.testBit_two_pow_sub_one] at hb
  simp [hi] at hb
 ·omega
/-- The indexes from i on that are in a set. -/
def bix (s : Nat) : Nat → List S85 → List Int
 | _, [] => []
 | i, _ :: r => if s.testBit i = true then (i : Int) :: bix s (i + 1) r else bix s (i + 1) r
/-- The readings that are not. -/
def rest (s : Nat) (l : List S85) : List S85 := sel (fun i => !s.testBit i) 0 l
theorem sel_in {s i : Nat} (h : s.testBit i = true) (t : S85) (r : List S85) : sel (fun i => !s.testBit i) i (t :: r) = sel (fun i => !s.testBit i) (i + 1) r := by
 show (if (!s.testBit i) = true then _ else _) = _
 rw [h]; rfl
theorem sel_out {s i : Nat} (h : s.testBit i = false) (t : S85) (r : List S85) : sel (fun i => !s.testBit i) i (t :: r) = t :: sel (fun i => !s.testBit i) (i + 1) r := by
 show (if (!s.testBit i) = true then _ else _) = _
 rw [h]; rfl
theorem bix_in {s i : Nat} (h : s.testBit i = true) (t : S85) (r : List S85) : bix s i (t :: r) = (i : Int) :: bix s (i + 1) r := by
 show (if s.testBit i = true then _ else _) = _
 rw [h]; rfl
theorem bix_out {s i : Nat} (h : s.testBit i = false) (t : S85) (r : List S85) : bix s i (t :: r) = bix s (i + 1) r := by
 show (if s.testBit i = true then _ else _) = _
 rw [h]; rfl
theorem bix_sel (s : Nat) : ∀ (l : List S85) (i : Nat), (bix s i l).length + (sel (fun i => !s.testBit i) i l).length = l.length
  | [], _ => rfl
  | t :: r, i => by
    have ih := bix_sel s r (i + 1)
    cases c : s.testBit i with
    | true => rw [bix_in c, sel_in c, List.length_cons, List.length_cons]; omega
    | false => rw [bix_out c, sel_out c, List.length_cons, List.length_cons]; omega
theorem mem_bix (s : Nat) : ∀ (l : List S85) (i : Nat) (x : Int), x ∈ bix s i l ↔ ∃ j : Nat, j < l.length ∧ s.testBit (i + j) = true ∧ x = ((i + j : Nat) : Int)
  | [], _, x => by simp [bix]
  | t :: r, i, x => by
    have ih := mem_bix s r (i + 1) x
    have key : (∃ j : Nat, j < (t :: r).length ∧ s.testBit (i + j) = true ∧ x = ((i + j : Nat) : Int)) ↔ (s.testBit i = true ∧ x = (i : Int)) ∨ ∃ j : Nat, j < r.length ∧ s.testBit (i + 1 + j) = true ∧ x = ((i + 1 + j : Nat) : Int) := by
      constructor
      · rintro ⟨j, h1, h2, h3⟩
        cases j with
        | zero => exact .inl ⟨h2, h3⟩
        | succ j => exact .inr ⟨j, by simpa using h1, by rw [show i + 1 + j = i + (j + 1) by omega]; exact h2, by rw [h3]; omega⟩
      · rintro (⟨h1, h2⟩ | ⟨j, h1, h2, h3⟩)
        · exact ⟨0, by simp, h1, h2⟩
        · exact ⟨j + 1, by simpa using h1, by rw [show i + (j + 1) = i + 1 + j by omega]; exact h2, by rw [h3]; omega⟩
    rw [key]
    unfold bix
    cases c : s.testBit i with
    | true => simp only [if_true, List.mem_cons, ih, true_and]
    | false => simp only [Bool.false_eq_true, if_false, ih, false_and, false_or]
def okS (s : Nat) (l : List S85) : Bool := decide ((com (rest s l)).1 ≤ (com (rest s l)).2)
/-- A list is before another one of the same length. -/
def lx : List Int → List Int → Bool
 | x :: a, y :: b => if x = y then lx a b else decide (x < y)
 | _, _ => false
def btr (a : List Int) (st : List Int × Bool) : Bool := !st.2 || (decide (a.length < st.1.length) || (decide (a.length = st.1.length) && lx a st.1))
def bstep (l : List S85) (st : List Int × Bool) (s : Nat) : List Int × Bool := if okS s l = true ∧ btr (bix s 0 l) st = true then (bix s 0 l, true) else st
theorem bstep_no {l : List S85} {st : List Int × Bool} {s : Nat} (h : btr (bix s 0 l) st = false) : bstep l st s = st := by unfold bstep; rw [h, if_neg (by simp)]
def bads (l : List S85) (n s : Nat) (st : List Int × Bool) : List Int × Bool := (List.range' s n).foldl (bstep l) st

theorem cmpI_eq (a b : Int) : cmp_Compare_int.f a b = some (if a < b then -1 else if a > b then 1 else 0) := by
 unfold cmp_Compare_int.f cmp_isNaN_int.f
 simp only [bne_self_eq_false, Option.bind_some, Bool.false_eq_true, if_false]
 by_cases h : a < b
 ·simp only [h, if_true]
 ·by_cases h2 : a > b
  ·simp only [h, h2, if_true, if_false]
  ·simp only [h, h2, if_false]
theorem or_ev (x y : Int) : Ev (fun k => cmp_Or_int.f k [x, y]) (if x = 0 then y else x) := by
 refine ⟨3, fun j hj => ?_⟩
 obtain ⟨m, rfl⟩ : ∃ m, j = m + 3 := ⟨j - 3, by omega⟩
 have e0 : ∀ x y : Int, rd [x, y] 0 = x := fun _ _ => rfl
 have e1 : ∀ x y : Int, rd [x, y] 1 = y := fun _ _ => rfl
 unfold cmp_Or_int.f
 by_cases h : x = 0
 ·by_cases h2 : y = 0
  ·simp [cmp_Or_int.l0, e0, e1, w64 (n := 1) (by omega), w64 (n := 2) (by omega), h, h2]
  ·simp [cmp_Or_int.l0, e0, e1, w64 (n := 1) (by omega), w64 (n := 2) (by omega), h, h2]
 ·simp [cmp_Or_int.l0, e0, h]
/-- slices.Compare of lists of the same length is below 0 exactly if the first one is before. -/
theorem cmpS_l0 (a b : List Int) (hab : a.length = b.length) (ha : a.length < 4611686018427387904) : ∀ (n i : Nat), i + n = a.length → ∃ c : Int, Ev (fun k => slices_Compare_int_int.l0 k a b a (a.length : Int) (i : Int)) c ∧ (c < 0 ↔ lx (a.drop i) (b.drop i) = true)
 | 0, i, h => by
  refine ⟨0, ?_, ?_⟩
  ·refine Ev.succ (f := fun k => slices_Compare_int_int.l0 k a b a (a.length : Int) (i : Int)) ?_
   simp only [slices_Compare_int_int.l0, show ¬ (i : Int) < (a.length : Int) by omega, if_false, show ¬ (a.length : Int) < (b.length : Int) by omega]
   exact Ev.some
  ·rw [show a.drop i = [] from List.drop_eq_nil_of_le (by omega)]
   simp [lx]
 | n + 1, i, h => by
  obtain ⟨c, hc, hl⟩ := cmpS_l0 a b hab ha n (i + 1) (by omega)
  rw [drop_rd (l := a) (show i < a.length by omega), drop_rd (l := b) (show i < b.length by omega)]
  unfold lx
  by_cases e : rd a (i : Int) = rd b (i : Int)
  ·rw [if_pos e]
   refine ⟨c, ?_, hl⟩
   refine Ev.succ (f := fun k => slices_Compare_int_int.l0 k a b a (a.length : Int) (i : Int)) ?_
   simp only [slices_Compare_int_int.l0, show (i : Int) < (a.length : Int) by omega, show (0 : Int) ≤ (i : Int) by omega, show ¬ (i : Int) ≥ (b.length : Int) by omega, show (i : Int) < (b.length : Int) by omega, if_true, if_false, cmpI_eq, Option.bind_some, show ¬ rd a (i : Int) < rd b (i : Int) by omega, show ¬ rd a (i : Int) > rd b (i : Int) by omega, up (show i < 4611686018427387904 by omega)]
   exact hc
  ·rw [if_neg e]
   refine ⟨if rd a (i : Int) < rd b (i : Int) then -1 else 1, ?_, ?_⟩
   ·refine Ev.succ (f := fun k => slices_Compare_int_int.l0 k a b a (a.length : Int) (i : Int)) ?_
    simp only [slices_Compare_int_int.l0, show (i : Int) < (a.length : Int) by omega, show (0 : Int) ≤ (i : Int) by omega, show ¬ (i : Int) ≥ (b.length : Int) by omega, show (i : Int) < (b.length : Int) by omega, if_true, if_false, cmpI_eq, Option.bind_some]
    by_cases c1 : rd a (i : Int) < rd b (i : Int)
    ·simp only [c1, if_true, show ¬ (-1 : Int) = 0 by decide, if_false]; exact Ev.some
    ·simp only [c1, show rd a (i : Int) > rd b (i : Int) by omega, if_true, show ¬ (1 : Int) = 0 by decide, if_false]; exact Ev.some
   ·rw [decide_eq_true_eq]; split <;> omega
/-- Of lists of any length it says something. -/
theorem cmpS_some (a b : List Int) (ha : a.length < 4611686018427387904) : ∀ (n i : Nat), i + n = a.length → ∃ c : Int, Ev (fun k => slices_Compare_int_int.l0 k a b a (a.length : Int) (i : Int)) c
 | 0, i, h => by
  refine ⟨if (a.length : Int) < (b.length : Int) then -1 else 0, ?_⟩
  refine Ev.succ (f := fun k => slices_Compare_int_int.l0 k a b a (a.length : Int) (i : Int)) ?_
  simp only [slices_Compare_int_int.l0, show ¬ (i : Int) < (a.length : Int) by omega, if_false]
  split <;> exact Ev.some
 | n + 1, i, h => by
  obtain ⟨c, hc⟩ := cmpS_some a b ha n (i + 1) (by omega)
  by_cases e : (i : Int) ≥ (b.length : Int)
  ·refine ⟨1, ?_⟩
   refine Ev.succ (f := fun k => slices_Compare_int_int.l0 k a b a (a.length : Int) (i : Int)) ?_
   simp only [slices_Compare_int_int.l0, show (i : Int) < (a.length : Int) by omega, show (0 : Int) ≤ (i : Int) by omega, e, if_true]
   exact Ev.some
  ·have hg : ∃ r : Int, Ev (fun k => if (if rd a (i : Int) < rd b (i : Int) then -1 else if rd a (i : Int) > rd b (i : Int) then 1 else (0 : Int)) = 0 then slices_Compare_int_int.l0 k a b a (a.length : Int) ((i + 1 : Nat) : Int) else some (if rd a (i : Int) < rd b (i : Int) then -1 else if rd a (i : Int) > rd b (i : Int) then 1 else (0 : Int))) r := by
    by_cases q : (if rd a (i : Int) < rd b (i : Int) then -1 else if rd a (i : Int) > rd b (i : Int) then 1 else (0 : Int)) = 0
    ·exact ⟨c, by simp only [q, if_true]; exact hc⟩
    ·exact ⟨_, by simp only [q, if_false]; exact Ev.some⟩
   obtain ⟨r, hr⟩ := hg
   refine ⟨r, ?_⟩
   refine Ev.succ (f := fun k => slices_Compare_int_int.l0 k a b a (a.length : Int) (i : Int)) ?_
   simp only [slices_Compare_int_int.l0, show (i : Int) < (a.length : Int) by omega, show (0 : Int) ≤ (i : Int) by omega, e, show (i : Int) < (b.length : Int) by omega, if_true, if_false, cmpI_eq, Option.bind_some, up (show i < 4611686018427387904 by omega)]
   exact hr
/-- The program's comparison, all of it. -/
theorem cmp_better (a b : List Int) (ha : a.length < 1000) (hb : b.length < 1000) : ∃ x y c : Int, cmp_Compare_int.f (a.length : Int) (b.length : Int) = some x ∧ Ev (fun k => slices_Compare_int_int.f k a b) y ∧ Ev (fun k => cmp_Or_int.f k [x, y]) c ∧ (c < 0 ↔ (decide (a.length < b.length) || (decide (a.length = b.length) && lx a b)) = true) := by
 refine ⟨if (a.length : Int) < (b.length : Int) then -1 else if (a.length : Int) > (b.length : Int) then 1 else 0, ?_⟩
 by_cases e : a.length = b.length
 ·obtain ⟨y, hy, hl⟩ := cmpS_l0 a b e (by omega) a.length 0 (by omega)
  rw [List.drop_zero, List.drop_zero] at hl
  refine ⟨y, _, cmpI_eq _ _, hy, or_ev _ _, ?_⟩
  rw [if_neg (show ¬ (a.length : Int) < (b.length : Int) by omega), if_neg (show ¬ (a.length : Int) > (b.length : Int) by omega)]
  simp only [if_true, e, decide_true, Bool.true_and, Nat.lt_irrefl, decide_false, Bool.false_or]
  exact hl
 ·obtain ⟨y, hy⟩ := cmpS_some a b (by omega) a.length 0 (by omega)
  refine ⟨y, _, cmpI_eq _ _, hy, or_ev _ _, ?_⟩
  simp only [e, decide_false, Bool.false_and, Bool.or_false, decide_eq_true_eq]
  by_cases c : a.length < b.length
  ·simp only [show (a.length : Int) < (b.length : Int) by omega, c, if_true, show ¬ (-1 : Int) = 0 by decide, if_false]; decide
  ·simp only [show ¬ (a.length : Int) < (b.length : Int) by omega, show (a.length : Int) > (b.length : Int) by omega, c, if_true, if_false, show ¬ (1 : Int) = 0 by decide]; decide
theorem bix_le (s : Nat) (l : List S85) : (bix s 0 l).length ≤ l.length := by have := bix_sel s l 0; omega
theorem BadOf_l1 (l : List S85) (hl : l.length ≤ 8) (hk : ∀ t ∈ l, okR t) (s : Nat) (hs : s < 256) (hr0 : rest s l ≠ []) (st : List Int × Bool) (hst : st.1.length ≤ 8) (N : Int) (r : List Int × Int) (hr : Ev (fun k => L_BadOf.l0 k l (bstep l st s).1 (bstep l st s).2 N ((s + 1 : Nat) : Int)) r) : ∀ (n i : Nat) (bad : List Int) (q : List S85), i + n = l.length → bad.length ≤ i → q.length ≤ i → bad ++ bix s i (l.drop i) = bix s 0 l → q ++ sel (fun i => !s.testBit i) i (l.drop i) = rest s l →
  Ev (fun k => L_BadOf.l1 k l st.1 st.2 (s : Int) bad q N (s : Int) l (l.length : Int) (i : Int)) r
 | 0, i, bad, q, h, hb, hq, eb, eq => by
  refine Ev.succ (f := fun k => L_BadOf.l1 k l st.1 st.2 (s : Int) bad q N (s : Int) l (l.length : Int) (i : Int)) ?_
  rw [show l.drop i = [] from List.drop_eq_nil_of_le (by omega)] at eb eq
  simp only [bix, sel, List.append_nil] at eb eq
  subst eb
  subst eq
  have hbl := bix_le s l
  have hcom := common_ev (rest s l) hr0 (by have := bix_sel s l 0; unfold rest; omega) (fun t ht => hk t (sel_mem l 0 t ht))
  simp only [L_BadOf.l1, show ¬ (i : Int) < (l.length : Int) by omega, if_false, up (show s < 4611686018427387904 by omega)]
  unfold bstep btr okS at hr
  cases hf : st.2 with
  | true =>
   simp only [if_true]
   obtain ⟨x, y, c, h1, h2, h3, h4⟩ := cmp_better (bix s 0 l) st.1 (by omega) (by omega)
   rw [h1]
   simp only [Option.bind_some]
   refine Ev.bind h2 ?_
   refine Ev.bind h3 ?_
   refine Ev.bind hcom ?_
   simp only [hf, Bool.not_true, Bool.false_or] at hr
   by_cases c1 : (com (rest s l)).1 ≤ (com (rest s l)).2
   ·by_cases c2 : c < 0
    ·have c3 := h4.1 c2
     simp only [c1, c2, c3, decide_true, and_self, if_true] at hr ⊢
     exact hr
    ·have c3 : ¬ (decide ((bix s 0 l).length < st.1.length) || (decide ((bix s 0 l).length = st.1.length) && lx (bix s 0 l) st.1)) = true := fun h => c2 (h4.2 h)
     simp only [c1, c2, c3, decide_true, and_false, if_true, if_false, Bool.false_eq_true, hf] at hr ⊢
     exact hr
   ·simp only [c1, decide_false, Bool.false_eq_true, false_and, if_false, hf] at hr ⊢
    exact hr
  | false =>
   simp only [Bool.false_eq_true, if_false]
   refine Ev.bind hcom ?_
   simp only [hf, Bool.not_false, Bool.true_or, and_true] at hr
   by_cases c1 : (com (rest s l)).1 ≤ (com (rest s l)).2
   ·simp only [c1, decide_true, if_true] at hr ⊢
    exact hr
   ·simp only [c1, decide_false, Bool.false_eq_true, if_false, hf] at hr ⊢
    exact hr
 | n + 1, i, bad, q, h, hb, hq, eb, eq => by
  refine Ev.succ (f := fun k => L_BadOf.l1 k l st.1 st.2 (s : Int) bad q N (s : Int) l (l.length : Int) (i : Int)) ?_
  have hi : i < l.length := by omega
  rw [rd85_drop hi] at eb eq
  have hbit := bit_eq (s := s) (i := i) hs (by omega)
  simp only [L_BadOf.l1, show (i : Int) < (l.length : Int) by omega, show (0 : Int) ≤ (i : Int) by omega, if_true, up (show i < 4611686018427387904 by omega), show bad.length < 17592186044416 by omega, show q.length < 5864062014805 by omega, hbit]
  cases c : s.testBit i with
  | true =>
   rw [bix_in c] at eb
   rw [sel_in c] at eq
   simp only [if_true]
   exact BadOf_l1 l hl hk s hs hr0 st hst N r hr n (i + 1) (bad ++ [(i : Int)]) q (by omega) (by simp; omega) (by omega) (by rw [List.append_assoc]; exact eb) eq
  | false =>
   rw [bix_out c] at eb
   rw [sel_out c] at eq
   simp only [Bool.false_eq_true, if_false]
   exact BadOf_l1 l hl hk s hs hr0 st hst N r hr n (i + 1) bad (q ++ [rd_T85 l (i : Int)]) (by omega) (by omega) (by simp; omega) eb (by rw [List.append_assoc]; exact eq)
theorem bstep_len (l : List S85) (st : List Int × Bool) (s M : Nat) (h : st.1.length ≤ M) (hl : l.length ≤ M) : (bstep l st s).1.length ≤ M := by
 unfold bstep
 split
 ·exact Nat.le_trans (bix_le s l) hl
 ·exact h
theorem BadOf_l0 (l : List S85) (h1 : 1 ≤ l.length) (hl : l.length ≤ 8) (hk : ∀ t ∈ l, okR t) : ∀ (n s : Nat) (st : List Int × Bool), s + n = 2 ^ l.length - 1 → st.1.length ≤ 8 →
    Ev (fun k => L_BadOf.l0 k l st.1 st.2 ((2 ^ l.length - 1 : Nat) : Int) (s : Int)) ((bads l n s st).1, 0)
  | 0, s, st, h, hst => by
    refine Ev.succ (f := fun k => L_BadOf.l0 k l st.1 st.2 ((2 ^ l.length - 1 : Nat) : Int) (s : Int)) ?_
    simp only [L_BadOf.l0, show ¬ (s : Int) < ((2 ^ l.length - 1 : Nat) : Int) by omega, if_false]
    exact Ev.some
  | n + 1, s, st, h, hst => by
    refine Ev.succ (f := fun k => L_BadOf.l0 k l st.1 st.2 ((2 ^ l.length - 1 : Nat) : Int) (s : Int)) ?_
    have hp := pow_in h1 hl
    have ih := BadOf_l0 l h1 hl hk n (s + 1) (bstep l st s) (by omega) (bstep_len l st s 8 hst hl)
    simp only [L_BadOf.l0, show (s : Int) < ((2 ^ l.length - 1 : Nat) : Int) by omega, if_true]
    have hr0 : rest s l ≠ [] := by
      intro e
      have h2 := bix_sel s l 0
      unfold rest at e
      rw [e] at h2
      have hall : ∀ i, i < l.length → s.testBit i = true := by
        intro i hi
        cases hc : s.testBit i with
        | true => rfl
        | false =>
          exfalso
          have : ∀ (m : List S85) (j : Nat), i < j + m.length → j ≤ i → sel (fun i => !s.testBit i) j m ≠ [] := by
            intro m
            induction m with
            | nil => intro j h1 h2; simp at h1; omega
            | cons t r ih =>
              intro j h1 h2
              unfold sel
              by_cases ej : j = i
              · subst ej; rw [hc]; simp
              · split
                · simp
                · exact ih (j + 1) (by simp at h1; omega) (by omega)
          exact this l 0 (by omega) (by omega) e
      have : s = 2 ^ l.length - 1 := by
        apply Nat.eq_of_testBit_eq
        intro i
        rw [Nat.testBit_two_pow_sub_one]
        by_cases hi : i < l.length
        · rw [hall i hi]; simp [hi]
        · have h3 : s < 2 ^ i := Nat.lt_of_lt_of_le (show s < 2 ^ l.length by omega) (Nat.pow_le_pow_right (by omega) (by omega))
          rw [Nat.testBit_lt_two_pow h3]; simp [hi]
      omega
    exact BadOf_l1 l hl hk s (by omega) hr0 st hst _ _ ih l.length 0 [] [] (by omega) (by simp) (by simp) rfl rfl
theorem isLess_l0 (a b : List Int) (hab : a.length = b.length) (ha : a.length < 4611686018427387904) : ∀ (n i : Nat), i + n = a.length → Ev (fun k => Rf_isLess.l0 k a b (i : Int)) (lx (a.drop i) (b.drop i))
 | 0, i, h => by
  refine Ev.succ (f := fun k => Rf_isLess.l0 k a b (i : Int)) ?_
  simp only [Rf_isLess.l0, show ¬ (i : Int) < (a.length : Int) by omega, if_false]
  rw [show a.drop i = [] from List.drop_eq_nil_of_le (by omega)]
  unfold lx
  exact Ev.some
 | n + 1, i, h => by
  refine Ev.succ (f := fun k => Rf_isLess.l0 k a b (i : Int)) ?_
  have ih := isLess_l0 a b hab ha n (i + 1) (by omega)
  rw [drop_rd (l := a) (show i < a.length by omega), drop_rd (l := b) (show i < b.length by omega)]
  simp only [Rf_isLess.l0, show (i : Int) < (a.length : Int) by omega, show (0 : Int) ≤ (i : Int) by omega, show (i : Int) < (b.length : Int) by omega, if_true, up (show i < 4611686018427387904 by omega), lx]
  by_cases e : rd a (i : Int) = rd b (i : Int)
  ·simp only [e, if_true]; exact ih
  ·simp only [e, if_false]; exact Ev.some
theorem isLess_ev (a b : List Int) (hab : a.length = b.length) (ha : a.length < 4611686018427387904) : Ev (fun k => Rf_isLess.f k a b) (lx a b) := by
 have := isLess_l0 a b hab ha a.length 0 (by omega)
 rw [List.drop_zero, List.drop_zero] at this
 exact this
theorem Bad_j2 (l : List S85) (hl : l.length ≤ 8) (hk : ∀ t ∈ l, okR t) (s : Nat) (hs : s < 256) (st : List Int × Bool) (r : List Int) (hr : Ev (fun k => Rf_Bad.l0 k l (bstep l st s).1 (bstep l st s).2 ((s + 1 : Nat) : Int)) r) (y : Bool) (hy : y = !btr (bix s 0 l) st) :
  Ev (fun k => Rf_Bad.j2 k l st.1 st.2 (s : Int) (bix s 0 l) y) r := by
 refine Ev.succ (f := fun k => Rf_Bad.j2 k l st.1 st.2 (s : Int) (bix s 0 l) y) ?_
 have hbl := bix_le s l
 unfold bstep at hr
 subst hy
 cases hb : btr (bix s 0 l) st with
 | false =>
  rw [hb] at hr
  simp only [Bool.false_eq_true, and_false, if_false] at hr
  simp only [Rf_Bad.j2, Bool.not_false, if_true, up (show s < 4611686018427387904 by omega)]
  exact hr
 | true =>
  rw [hb] at hr
  simp only [and_true] at hr
  simp only [Rf_Bad.j2, Bool.not_true, Bool.false_eq_true, if_false, up (show s < 4611686018427387904 by omega)]
  refine Ev.bind (Common_ev l (by omega) hk (bix s 0 l) (by omega) (rest s l) (sel_congr l 0 fun j h1 h2 => ?_)) ?_
  ·cases c : s.testBit j with
   | true =>
    have : (j : Int) ∈ bix s 0 l := (mem_bix s l 0 _).2 ⟨j, by omega, by rw [Nat.zero_add]; exact c, by omega⟩
    simp only [this, decide_true]
   | false =>
    have : ¬ (j : Int) ∈ bix s 0 l := fun hm => by
     obtain ⟨j', _, h3, h4⟩ := (mem_bix s l 0 _).1 hm
     have : 0 + j' = j := by omega
     rw [this, c] at h3; cases h3
    simp only [this, decide_false]
  ·unfold okS at hr
   by_cases c : (com (rest s l)).1 ≤ (com (rest s l)).2
   ·simp only [c, decide_true, if_true] at hr ⊢; exact hr
   ·simp only [c, decide_false, Bool.false_eq_true, if_false] at hr ⊢; exact hr
theorem Bad_l1 (l : List S85) (hl : l.length ≤ 8) (hk : ∀ t ∈ l, okR t) (s : Nat) (hs : s < 256) (st : List Int × Bool) (hst : st.1.length ≤ 8) (r : List Int) (hr : Ev (fun k => Rf_Bad.l0 k l (bstep l st s).1 (bstep l st s).2 ((s + 1 : Nat) : Int)) r) : ∀ (n i : Nat) (bad : List Int), i + n = l.length → bad.length ≤ i → bad ++ bix s i (l.drop i) = bix s 0 l →
  Ev (fun k => Rf_Bad.l1 k l st.1 st.2 (s : Int) bad (i : Int)) r
 | 0, i, bad, h, hb, eb => by
  refine Ev.succ (f := fun k => Rf_Bad.l1 k l st.1 st.2 (s : Int) bad (i : Int)) ?_
  rw [show l.drop i = [] from List.drop_eq_nil_of_le (by omega)] at eb
  simp only [bix, List.append_nil] at eb
  subst eb
  have hbl := bix_le s l
  have hj := Bad_j2 l hl hk s hs st r hr
  unfold btr at hj
  simp only [Rf_Bad.l1, show ¬ (i : Int) < (l.length : Int) by omega, if_false]
  cases hf : st.2 with
  | false =>
   rw [hf] at hj
   simp only [Bool.false_eq_true, if_false]
   exact hj false (by simp)
  | true =>
   rw [hf] at hj
   simp only [if_true]
   by_cases c1 : ((bix s 0 l).length : Int) > (st.1.length : Int)
   ·simp only [c1, if_true]
    exact hj true (by rw [show decide ((bix s 0 l).length < st.1.length) = false from decide_eq_false (by omega), show decide ((bix s 0 l).length = st.1.length) = false from decide_eq_false (by omega)]; rfl)
   ·by_cases c2 : (bix s 0 l).length = st.1.length
    ·simp only [c1, show ((bix s 0 l).length : Int) = (st.1.length : Int) by omega, if_true, if_false, Int.lt_irrefl, gt_iff_lt]
     refine Ev.bind (isLess_ev _ _ c2 (by omega)) ?_
     exact hj _ (by rw [show decide ((bix s 0 l).length < st.1.length) = false from decide_eq_false (by omega), show decide ((bix s 0 l).length = st.1.length) = true from decide_eq_true c2]; simp)
    ·simp only [c1, show ¬ ((bix s 0 l).length : Int) = (st.1.length : Int) by omega, if_false]
     exact hj false (by rw [show decide ((bix s 0 l).length < st.1.length) = true from decide_eq_true (by omega)]; rfl)
 | n + 1, i, bad, h, hb, eb => by
  refine Ev.succ (f := fun k => Rf_Bad.l1 k l st.1 st.2 (s : Int) bad (i : Int)) ?_
  have hi : i < l.length := by omega
  rw [rd85_drop hi] at eb
  have hbit := bit_eq (s := s) (i := i) hs (by omega)
  simp only [Rf_Bad.l1, show (i : Int) < (l.length : Int) by omega, show (0 : Int) ≤ (i : Int) by omega, if_true, up (show i < 4611686018427387904 by omega), show bad.length < 17592186044416 by omega, hbit]
  cases c : s.testBit i with
  | true =>
   rw [bix_in c] at eb
   simp only [if_true]
   exact Bad_l1 l hl hk s hs st hst r hr n (i + 1) (bad ++ [(i : Int)]) (by omega) (by simp; omega) (by rw [List.append_assoc]; exact eb)
  | false =>
   rw [bix_out c] at eb
   simp only [Bool.false_eq_true, if_false]
   exact Bad_l1 l hl hk s hs st hst r hr n (i + 1) bad (by omega) (by omega) eb
theorem Bad_l0 (l : List S85) (h1 : 1 ≤ l.length) (hl : l.length ≤ 8) (hk : ∀ t ∈ l, okR t) : ∀ (n s : Nat) (st : List Int × Bool), s + n = 2 ^ l.length → st.1.length ≤ 8 → Ev (fun k => Rf_Bad.l0 k l st.1 st.2 (s : Int)) (bads l n s st).1
 | 0, s, st, h, hst => by
  refine Ev.succ (f := fun k => Rf_Bad.l0 k l st.1 st.2 (s : Int)) ?_
  simp only [Rf_Bad.l0, shl_eq hl, show ¬ (s : Int) < ((2 ^ l.length : Nat) : Int) by omega, if_false]
  exact Ev.some
 | n + 1, s, st, h, hst => by
  refine Ev.succ (f := fun k => Rf_Bad.l0 k l st.1 st.2 (s : Int)) ?_
  have hp := pow_in h1 hl
  have ih := Bad_l0 l h1 hl hk n (s + 1) (bstep l st s) (by omega) (bstep_len l st s 8 hst hl)
  simp only [Rf_Bad.l0, shl_eq hl, show (s : Int) < ((2 ^ l.length : Nat) : Int) by omega, if_true]
  exact Bad_l1 l hl hk s (by omega) st hst _ ih l.length 0 [] (by omega) (by simp) rfl

/-- What is known of the state after the sets below S. -/
def BS (l : List S85) (S : Nat) (st : List Int × Bool) : Prop :=
 (st.2 = true → ∃ s, s < S ∧ okS s l = true ∧ st.1 = bix s 0 l) ∧ ∀ s, s < S → okS s l = true → st.2 = true ∧ st.1.length ≤ (bix s 0 l).length
theorem bstep_BS {l : List S85} {S : Nat} {st : List Int × Bool} (h : BS l S st) : BS l (S + 1) (bstep l st S) := by
  obtain ⟨h1, h2⟩ := h
  unfold bstep
  by_cases c : okS S l = true ∧ btr (bix S 0 l) st = true
  · rw [if_pos c]
    refine ⟨fun _ => ⟨S, by omega, c.1, rfl⟩, fun s hs ho => ⟨rfl, ?_⟩⟩
    by_cases e : s = S
    · subst e; exact Nat.le_refl _
    · have h3 := h2 s (by omega) ho
      have hb := c.2
      unfold btr at hb
      rw [h3.1] at hb
      simp only [Bool.not_true, Bool.false_or, Bool.or_eq_true, Bool.and_eq_true, decide_eq_true_eq] at hb
      have h4 := h3.2
      show (bix S 0 l).length ≤ (bix s 0 l).length
      omega
  · rw [if_neg c]
    refine ⟨fun hf => ?_, fun s hs ho => ?_⟩
    · obtain ⟨s, a, b, e⟩ := h1 hf
      exact ⟨s, by omega, b, e⟩
    · by_cases e : s = S
      · subst e
        have hb : ¬ btr (bix s 0 l) st = true := fun hb => c ⟨ho, hb⟩
        unfold btr at hb
        simp only [Bool.or_eq_true, Bool.not_eq_true', Bool.and_eq_true, decide_eq_true_eq, not_or] at hb
        refine ⟨by cases hq : st.2 with
          | true => rfl
          | false => exact absurd hq hb.1, by omega⟩
      · exact h2 s (by omega) ho
theorem bads_BS (l : List S85) : ∀ (n s : Nat) (st : List Int × Bool), BS l s st → BS l (s + n) (bads l n s st)
 | 0, s, st, h => h
 | n + 1, s, st, h => by
  have := bads_BS l n (s + 1) (bstep l st s) (bstep_BS h)
  have e : bads l (n + 1) s st = bads l n (s + 1) (bstep l st s) := by unfold bads; rw [List.range'_succ]; rfl
  rw [e, show s + (n + 1) = s + 1 + n by omega]; exact this
theorem BS0 (l : List S85) : BS l 0 (([] : List Int), false) := ⟨fun h => (by cases h), fun s hs => (by omega)⟩
/-- The bad readings. -/
def badL (l : List S85) : List Int := (bads l (2 ^ l.length - 1) 0 (([] : List Int), false)).1
/-- The readings that an offset fits are the rest of a set. -/
theorem set_fit (l : List S85) (o : Int) : ∃ s, s < 2 ^ l.length ∧ rest s l = l.filter (ft o) ∧ (∀ i t, l[i]? = some t → s.testBit i = !ft o t) := by
 obtain ⟨s, h1, h2⟩ := set_of (fun i => match l[i]? with | some t => !ft o t | none => false) l.length
 have h3 : ∀ i t, l[i]? = some t → s.testBit i = !ft o t := by
  intro i t ht
  have := h2 i (List.getElem?_eq_some_iff.1 ht).1
  rw [this, ht]
 refine ⟨s, h1, ?_, h3⟩
 unfold rest
 refine sel_filter l 0 (fun j t hj => ?_)
 rw [Nat.zero_add, h3 j t hj, Bool.not_not]
theorem okS_fit {l : List S85} {o : Int} (ho : -20000 ≤ o ∧ o ≤ 20000) {s : Nat} (h : rest s l = l.filter (ft o)) : okS s l = true := by
 unfold okS
 rw [h]
 have := (com_iff (r := l.filter (ft o)) ho).2 (fun t ht => (List.mem_filter.1 ht).2)
 exact decide_eq_true (by omega)
/-- Among the sets but the last one is a good one: it leaves those whom an offset fits. -/
theorem good_set {l : List S85} (hk : ∀ t ∈ l, okR t) {u : S85} (hu : u ∈ l) {o : Int} (ho : -20000 ≤ o ∧ o ≤ 20000) (hf : ft o u = true) : ∃ s, s < 2 ^ l.length - 1 ∧ okS s l = true ∧ (bix s 0 l).length + ct l o = l.length := by
 obtain ⟨s, h1, h2, h3⟩ := set_fit l o
 obtain ⟨i, hi, e⟩ := List.getElem_of_mem hu
 have hb := h3 i u (by rw [List.getElem?_eq_getElem hi, e])
 rw [hf] at hb
 refine ⟨s, set_not_all h1 hi hb, okS_fit ho h2, ?_⟩
 have := bix_sel s l 0
 unfold rest at h2
 rw [h2] at this
 exact this
theorem bad_votes {l : List S85} (h : rsE l = 0) : (badL l).length + (vt l).2 = l.length ∧ (bads l (2 ^ l.length - 1) 0 (([] : List Int), false)).2 = true := by
  obtain ⟨h1, h2, hk⟩ := readings_ok h
  have h0 : l ≠ [] := by intro e; rw [e] at h1; simp at h1
  have hv := vt_ok h0 hk
  obtain ⟨u, hu, eu⟩ := hv.2.2
  have hp := pow_in h1 h2
  obtain ⟨b1, b2⟩ := bads_BS l (2 ^ l.length - 1) 0 _ (BS0 l)
  have hoi := o_in (hk u hu)
  obtain ⟨s, s1, s2, s3⟩ := good_set hk hu (o := (vt l).1) (by omega) (by rw [eu]; exact ft_self (hk u hu))
  obtain ⟨f1, f2⟩ := b2 s (by omega) s2
  obtain ⟨s', _, t2, t3⟩ := b1 f1
  refine ⟨?_, f1⟩
  have hlow : (badL l).length ≤ (bix s 0 l).length := f2
  have hb : badL l = bix s' 0 l := t3
  have hrest := bix_sel s' l 0
  have hc : (sel (fun i => !s'.testBit i) 0 l).length ≤ (vt l).2 := by
    by_cases hr : rest s' l = []
    · unfold rest at hr; rw [hr]; simp
    · have hin := com_in hr (fun t ht => hk t (sel_mem l 0 t ht))
      unfold okS at t2
      rw [decide_eq_true_eq] at t2
      have hall := (com_iff (r := rest s' l) (o := (com (rest s' l)).1) (by omega)).1 ⟨by omega, t2⟩
      have hle := (ct_le h0 hk (com (rest s' l)).1).1
      have hsub : ∀ (m : List S85) (i : Nat), (∀ t ∈ sel (fun i => !s'.testBit i) i m, ft (com (rest s' l)).1 t = true) → (sel (fun i => !s'.testBit i) i m).length ≤ (m.filter (ft (com (rest s' l)).1)).length := by
        intro m
        induction m with
        | nil => intro i _; simp [sel]
        | cons t r ih =>
          intro i hq
          unfold sel at hq ⊢
          rw [List.filter_cons]
          by_cases c : (!s'.testBit i) = true
          · rw [if_pos c] at hq ⊢
            rw [if_pos (hq t List.mem_cons_self)]
            have := ih (i + 1) (fun x hx => hq x (List.mem_cons_of_mem _ hx))
            simp only [List.length_cons]; omega
          · rw [if_neg c] at hq ⊢
            have := ih (i + 1) hq
            split
            · simp only [List.length_cons]; omega
            · exact this
      have := hsub l 0 hall
      unfold ct at hle
      omega
  rw [hb]
  rw [hb] at hlow
  rw [hv.1] at hc ⊢
  omega
theorem BadOf_ok {l : List S85} (h : rsE l = 0) : Ev (fun k => L_BadOf.f k l) (badL l, 0) ∧ Ev (fun k => Rf_Bad.f k l) (badL l) := by
  obtain ⟨h1, h2, hk⟩ := readings_ok h
  have hp := pow_in h1 h2
  obtain ⟨hbv, hfound⟩ := bad_votes h
  have h0 : l ≠ [] := by intro e; rw [e] at h1; simp at h1
  have hv := vt_ok h0 hk
  constructor
  · unfold L_BadOf.f
    refine Ev.bind (readingsErr_ev l) ?_
    have e : wrap64 (shl .i64 1 (l.length : Int) - 1) = ((2 ^ l.length - 1 : Nat) : Int) := by
      rw [shl_eq h2, w64 (by omega)]; omega
    simp only [h, if_true, e]
    exact BadOf_l0 l h1 h2 hk (2 ^ l.length - 1) 0 (([] : List Int), false) (by omega) (by simp)
  · have := Bad_l0 l h1 h2 hk (2 ^ l.length) 0 (([] : List Int), false) (by omega) (by simp)
    have e : bads l (2 ^ l.length) 0 (([] : List Int), false) = bads l (2 ^ l.length - 1) 0 (([] : List Int), false) := by
      have e1 : 2 ^ l.length = (2 ^ l.length - 1) + 1 := by omega
      have e2 : List.range' 0 (2 ^ l.length) = List.range' 0 (2 ^ l.length - 1) ++ [2 ^ l.length - 1] := by
        conv => lhs; rw [e1]
        rw [List.range'_concat]; simp
      unfold bads
      rw [e2, List.foldl_append]
      show bstep l _ (2 ^ l.length - 1) = _
      have hall : ∀ (m : List S85) (i : Nat), i + m.length ≤ l.length → (bix (2 ^ l.length - 1) i m).length = m.length := by
        intro m
        induction m with
        | nil => intro i _; rfl
        | cons t r ih =>
          intro i hi
          unfold bix
          rw [Nat.testBit_two_pow_sub_one, if_pos (decide_eq_true (by simp at hi; omega))]
          simp only [List.length_cons]
          rw [ih (i + 1) (by simp at hi; omega)]
      have hlen := hall l 0 (by omega)
      have hb2 : ((List.range' 0 (2 ^ l.length - 1)).foldl (bstep l) (([] : List Int), false)).1.length < l.length := by
        have : (badL l).length = ((List.range' 0 (2 ^ l.length - 1)).foldl (bstep l) (([] : List Int), false)).1.length := rfl
        omega
      have hb3 : ((List.range' 0 (2 ^ l.length - 1)).foldl (bstep l) (([] : List Int), false)).2 = true := hfound
      have hnb : btr (bix (2 ^ l.length - 1) 0 l) ((List.range' 0 (2 ^ l.length - 1)).foldl (bstep l) (([] : List Int), false)) = false := by
        unfold btr
        rw [hb3, hlen, show decide (l.length < ((List.range' 0 (2 ^ l.length - 1)).foldl (bstep l) (([] : List Int), false)).1.length) = false from decide_eq_false (by omega), show decide (l.length = ((List.range' 0 (2 ^ l.length - 1)).foldl (bstep l) (([] : List Int), false)).1.length) = false from decide_eq_false (by omega)]
        rfl
      exact bstep_no hnb
    rw [e] at this
    exact this
theorem awake_ev : Ev (fun k => Lw_awake.f k) true :=
 Ev.of_mono (k := 1500) (fun k => Lw_awake.mono k) (by kernel_rfl)
theorem fits_eq {t : S85} (h : okR t) {o : Int} (ho : -5000 ≤ o ∧ o ≤ 5000) : Lw_fits.f t.f0 t.f1 t.f2 o = some (if ft o t = true then 1 else 0) := by
 unfold okR at h
 unfold Lw_fits.f ft oLo oHi
 rw [w64 (n := t.f0 + o) (by omega), w64 (n := t.f1 - t.f2) (by omega), w64 (n := t.f1 + t.f2) (by omega), Within_eq]
 simp only [Option.bind_some, decide_eq_true_eq]
 by_cases c : t.f1 - t.f2 ≤ t.f0 + o ∧ t.f0 + o ≤ t.f1 + t.f2
 ·rw [if_pos c, if_pos (by omega)]
 ·rw [if_neg c, if_neg (by omega)]
def cti (r : List S85) (o : Int) : Int := ((r.filter (ft o)).length : Int)
theorem cti_cons (t : S85) (r : List S85) (o : Int) : cti (t :: r) o = (if ft o t = true then 1 else 0) + cti r o := by
 unfold cti
 rw [List.filter_cons]
 split <;> simp <;> omega
theorem Votes_l0 {l : List S85} (h1 : l.length ≤ 8) (hk : ∀ t ∈ l, okR t) (o : Int) (ho : -5000 ≤ o ∧ o ≤ 5000) (v : Int) (bad : List Int) (lo hi : Int) (hlo : -5000 ≤ lo ∧ lo ≤ 5000) (hhi : -5000 ≤ hi ∧ hi ≤ 5000) (e1 : cti l lo = v) (e2 : cti l hi = v) (e3 : cti l o ≤ v) (e4 : cti l o = v → ¬ o < lo)
  (hr : Ev (fun k => Lw_TargetVotes.j3 k l o v bad (cti l o) false lo hi) true) : ∀ (n i : Nat) (a b c : Int), i + n = l.length → (0 ≤ a ∧ a ≤ i) → (0 ≤ b ∧ b ≤ i) → (0 ≤ c ∧ c ≤ i) → a + cti (l.drop i) lo = cti l lo → b + cti (l.drop i) hi = cti l hi → c + cti (l.drop i) o = cti l o →
  Ev (fun k => Lw_TargetVotes.l0 k l o v bad a b c (i : Int) lo hi) true
 | 0, i, a, b, c, h, _, _, _, ea, eb, ec => by
  refine Ev.succ (f := fun k => Lw_TargetVotes.l0 k l o v bad a b c (i : Int) lo hi) ?_
  rw [show l.drop i = [] from List.drop_eq_nil_of_le (by omega)] at ea eb ec
  have z : ∀ o, cti [] o = 0 := fun _ => rfl
  rw [z] at ea eb ec
  simp only [Lw_TargetVotes.l0, show ¬ (i : Int) < (l.length : Int) by omega, if_false]
  rw [show a = v by omega, show b = v by omega, show c = cti l o by omega]
  simp only [if_true, show ¬ cti l o > v by omega, if_false]
  by_cases q : cti l o = v
  ·simp only [q, if_true, e4 q, decide_false]
   rw [q] at hr; exact hr
  ·simp only [q, if_false]; exact hr
 | n + 1, i, a, b, c, h, ha, hb, hc, ea, eb, ec => by
  refine Ev.succ (f := fun k => Lw_TargetVotes.l0 k l o v bad a b c (i : Int) lo hi) ?_
  have hi' : i < l.length := by omega
  rw [rd85_drop hi', cti_cons] at ea eb ec
  have hm := hk _ (rd85_mem hi')
  have b0 : ∀ x : Int, 0 ≤ (if ft x (rd_T85 l (i : Int)) = true then (1 : Int) else 0) ∧ (if ft x (rd_T85 l (i : Int)) = true then (1 : Int) else 0) ≤ 1 := fun x => by split <;> omega
  have q1 := b0 lo
  have q2 := b0 hi
  have q3 := b0 o
  simp only [Lw_TargetVotes.l0, show (i : Int) < (l.length : Int) by omega, show (0 : Int) ≤ (i : Int) by omega, if_true, fits_eq hm hlo, fits_eq hm hhi, fits_eq hm ho, Option.bind_some, up (show i < 4611686018427387904 by omega)]
  rw [w64 (n := a + _) (by omega), w64 (n := b + _) (by omega), w64 (n := c + _) (by omega)]
  exact Votes_l0 h1 hk o ho v bad lo hi hlo hhi e1 e2 e3 e4 hr n (i + 1) _ _ _ (by omega) (by omega) (by omega) (by omega) (by omega) (by omega) (by omega)
theorem filter_all {l : List S85} {o : Int} (h : (l.filter (ft o)).length = l.length) : ∀ t ∈ l, ft o t = true := List.length_filter_eq_length_iff.1 h
theorem TargetVotes_ev (l : List S85) (o : Int) : Ev (fun k => Lw_TargetVotes.f k l o) true := by
  unfold Lw_TargetVotes.f
  refine Ev.bind awake_ev ?_
  simp only [if_true, few_eq, Option.bind_some, decide_eq_true_eq]
  have hT : Ev (fun k => Lw_TargetVotes.j0 k l o true) true := by
    refine Ev.succ (f := fun k => Lw_TargetVotes.j0 k l o true) ?_
    simp only [Lw_TargetVotes.j0, if_true]; exact Ev.some
  by_cases hl : (l.length : Int) ≤ 10
  · simp only [hl, if_true]
    refine Ev.bind (ReadingsErr_ev l) ?_
    by_cases h : rsE l = 0
    · simp only [h, if_true, Within_eq, Option.bind_some]
      by_cases ho : -5000 ≤ o ∧ o ≤ 5000
      · simp only [ho, and_self, decide_true, Bool.not_true]
        obtain ⟨h1, h2, hk⟩ := readings_ok h
        have h0 : l ≠ [] := by intro e; rw [e] at h1; simp at h1
        have hbv := (bad_votes h).1
        have hv := vt_ok h0 hk
        obtain ⟨u, hu, eu⟩ := hv.2.2
        have hou := o_in (hk u hu)
        -- the voted range begins with the offset
        have hFk : ∀ t ∈ vF l, okR t := fun t ht => hk t (List.mem_filter.1 ht).1
        have huF : u ∈ vF l := List.mem_filter.2 ⟨hu, by rw [eu]; exact ft_self (hk u hu)⟩
        have hF0 : vF l ≠ [] := List.ne_nil_of_mem huF
        have hin := com_in hF0 hFk
        have hat := (com_iff (r := vF l) (o := (vt l).1) (by omega)).2 (fun t ht => (List.mem_filter.1 ht).2)
        have hlo1 : oLo u ≤ (com (vF l)).1 := ((cmx_le (vF l) (-20000) _).1 (Int.le_refl _)).2 u huF
        have hlo : (com (vF l)).1 = (vt l).1 := by omega
        have hhiF := (com_iff (r := vF l) (o := (com (vF l)).2) (by omega)).1 ⟨by omega, Int.le_refl _⟩
        have c1 : cti l (com (vF l)).1 = ((vt l).2 : Int) := by rw [hlo, hv.1]; rfl
        have c2 : cti l (com (vF l)).2 = ((vt l).2 : Int) := by
          have a := (ct_le h0 hk (com (vF l)).2).1
          have b : (vt l).2 ≤ ct l (com (vF l)).2 := by
            rw [hv.1]
            unfold ct
            have hsub : vF l = (l.filter (ft (com (vF l)).2)).filter (ft (vt l).1) := by
              rw [List.filter_filter]
              unfold vF
              apply List.filter_congr
              intro t ht
              cases c : ft (vt l).1 t with
              | false => simp
              | true => rw [show ft (com (List.filter (ft (vt l).1) l)).2 t = true from hhiF t (List.mem_filter.2 ⟨ht, c⟩)]; rfl
            have hle := congrArg List.length hsub
            have hle2 := List.length_filter_le (ft (vt l).1) (l.filter (ft (com (vF l)).2))
            show (vF l).length ≤ _
            omega
          unfold cti
          unfold ct at a b
          omega
        have c3 := ct_le h0 hk o
        have hcti : cti l o = (ct l o : Int) := rfl
        have hll : ct l o ≤ l.length := List.length_filter_le _ _
        obtain ⟨v1, _⟩ := VotedIn_ok h
        obtain ⟨b1, _⟩ := BadOf_ok h
        refine Ev.succ (f := fun k => Lw_TargetVotes.j0 k l o false) ?_
        simp only [Lw_TargetVotes.j0, Bool.false_eq_true, if_false, CopyReadings_eq l (by omega), Option.bind_some]
        refine Ev.bind v1 ?_
        refine Ev.bind b1 ?_
        simp only [if_true, show ¬ (com (vF l)).1 > (com (vF l)).2 by omega, if_false, Within_eq, Option.bind_some, show (-5000 ≤ (com (vF l)).1 ∧ (com (vF l)).1 ≤ 5000) by omega, show (-5000 ≤ (com (vF l)).2 ∧ (com (vF l)).2 ≤ 5000) by omega, and_self, decide_true]
        rw [w64 (n := ((badL l).length : Int) + ((vt l).2 : Int)) (by omega), show ((badL l).length : Int) + ((vt l).2 : Int) = (l.length : Int) by omega, bne_self_eq_false]
        refine Ev.succ (f := fun k => Lw_TargetVotes.j1 k l o _ _ false _ _) ?_
        simp only [Lw_TargetVotes.j1, Bool.false_eq_true, if_false]
        refine Votes_l0 h2 hk o ho ((vt l).2 : Int) (badL l) (com (vF l)).1 (com (vF l)).2 (by omega) (by omega) c1 c2 (by omega) (fun hq => by have := c3.2 (by omega); omega) ?_ l.length 0 0 0 0 (by omega) (by omega) (by omega) (by omega) (by rw [List.drop_zero]; omega) (by rw [List.drop_zero]; omega) (by rw [List.drop_zero]; omega)
        -- the common offsets
        refine Ev.succ (f := fun k => Lw_TargetVotes.j3 k l o _ _ _ false _ _) ?_
        simp only [Lw_TargetVotes.j3, Bool.false_eq_true, if_false, CopyReadings_eq l (by omega), Option.bind_some]
        refine Ev.bind (OffsetIn_ev l) ?_
        simp only [h, if_true]
        by_cases hall : cti l o = (l.length : Int)
        · have hfo : ∀ t ∈ l, ft o t = true := filter_all (by unfold cti at hall; omega)
          have hco := (com_iff (r := l) (o := o) (by omega)).2 hfo
          have hvn : (vt l).2 = l.length := by
            have a : (vt l).2 ≤ l.length := by rw [hv.1]; exact List.length_filter_le _ _
            omega
          have hFl : vF l = l := by
            unfold vF
            exact List.filter_eq_self.2 (filter_all (by have := hv.1; unfold ct at this; omega))
          simp only [hall, if_true, show (com l).1 ≤ (com l).2 by omega, hco, hFl, beq_self_eq_true, Bool.and_self]
          rw [show ((badL l).length : Int) = 0 by omega]
          simp only [beq_self_eq_true]
          exact Ev.some
        · simp only [hall, if_false]
          by_cases hc : (com l).1 ≤ (com l).2
          · have hcl := com_in h0 hk
            have hfa := (com_iff (r := l) (o := (com l).1) (by omega)).1 ⟨Int.le_refl _, hc⟩
            have hx : ct l (com l).1 = l.length := by
              unfold ct
              rw [List.filter_eq_self.2 hfa]
            have hy := (ct_le h0 hk (com l).1).1
            have hvn : ((vt l).2 : Int) = (l.length : Int) := by
              have a : (vt l).2 ≤ l.length := by rw [hv.1]; exact List.length_filter_le _ _
              omega
            simp only [hc, if_true, hvn, beq_self_eq_true]
            exact Ev.some
          · have hvn : ¬ ((vt l).2 : Int) = (l.length : Int) := by
              intro hq
              have hfa := filter_all (l := l) (o := (vt l).1) (by have := hv.1; unfold ct at this; omega)
              have := (com_iff (r := l) (o := (vt l).1) (by omega)).2 hfa
              omega
            have e1 : (((vt l).2 : Int) == (l.length : Int)) = false := beq_eq_false_iff_ne.mpr hvn
            simp only [hc, if_false, e1, show (((12 : Int) == 0)) = false by decide, beq_self_eq_true]
            exact Ev.some
      · simp only [ho, decide_false, Bool.not_false]; exact hT
    · simp only [h, if_false]; exact hT
  · simp only [hl, if_false]; exact hT
theorem TargetVotes_pure (l : List S85) (_ : l.length ≤ maxLen ∧ ∀ x ∈ l, (Lit.int .i64 x.f0).wf = true ∧ (Lit.int .i64 x.f1).wf = true ∧ (Lit.int .i64 x.f2).wf = true) (o : Int) (_ : (Lit.int .i64 o).wf = true) :
  ∃ k, Lw_TargetVotes.f k l o = some true := (TargetVotes_ev l o).ex
end Go.Proofs.Ytibhfahbabgbaaa.P
