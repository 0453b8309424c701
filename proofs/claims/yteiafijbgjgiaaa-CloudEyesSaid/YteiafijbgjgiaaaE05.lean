/-
PLAIN LAW: what the walks compute answers as the statement says (no program in sight; Ev: from some number of rounds on).
-/
import Derived.Test.YteiafijbgjgiaaaB07
import Derived.Test.YteiafijbgjgiaaaE04
namespace Go.Proofs.Yteiafijbgjgiaaa.P
open Go Go.RowKit Go.Proofs.Yteiafijbgjgiaaa.A Go.Proofs.YteiafijbgjgiaaaW.PrintWords Go.Proofs.YteiafijbgjgiaaaW.PrintLast Go.Proofs.YteiafijbgjgiaaaW.PrintMore
set_option linter.unusedSimpArgs false
set_option linter.unusedVariables false
def Ev {α : Type} (f : Nat → Option α) (r : α) : Prop := ∃ k, ∀ j, k ≤ j → f j = some r

theorem Ev.some {α : Type} {r : α} : Ev (fun _ => Option.some r) r := ⟨0, fun _ _ => rfl⟩
theorem Ev.bind {α β : Type} {f : Nat → Option α} {g : Nat → α → Option β} {a : α} {b : β} (h : Ev f a) (h2 : Ev (fun k => g k a) b) : Ev (fun k => (f k).bind (g k)) b := by
 obtain ⟨k, hk⟩ := h; obtain ⟨m, hm⟩ := h2; exact ⟨max k m, fun j hj => by show (f j).bind (g j) = _; rw [hk j (by omega)]; exact hm j (by omega)⟩
theorem Ev.succ {α : Type} {f : Nat → Option α} {r : α} (h : Ev (fun k => f (k + 1)) r) : Ev f r := by
 obtain ⟨k, hk⟩ := h; exact ⟨k + 1, fun j hj => by obtain ⟨m, rfl⟩ : ∃ m, j = m + 1 := ⟨j - 1, by omega⟩; exact hk m (by omega)⟩
theorem Ev.congr {α : Type} {f g : Nat → Option α} {r : α} (e : ∀ k, f k = g k) (h : Ev f r) : Ev g r := by
 obtain ⟨k, hk⟩ := h; exact ⟨k, fun j hj => by rw [← e j]; exact hk j hj⟩
theorem Ev.ex {α : Type} {f : Nat → Option α} {r : α} (h : Ev f r) : ∃ k, f k = Option.some r := let ⟨k, hk⟩ := h; ⟨k, hk k (Nat.le_refl _)⟩
theorem Ev.of_mono {α : Type} {f : Nat → Option α} {r : α} (hm : ∀ k, LeO (f k) (f (k + 1))) {k : Nat} (h : f k = Option.some r) : Ev f r := by
  refine ⟨k, fun j hj => ?_⟩
  induction j with
  | zero => obtain rfl : k = 0 := by omega
            exact h
  | succ j ih =>
    by_cases e : k = j + 1
    · subst e; exact h
    · exact hm j r (ih (by omega))
theorem up {i : Nat} (h : i < 4611686018427387904) : wrap64 ((i : Int) + 1) = ((i + 1 : Nat) : Int) := by
 unfold wrap64; omega
theorem w64 {n : Int} (h : -9223372036854775808 ≤ n ∧ n ≤ 9223372036854775807) : wrap64 n = n := by unfold wrap64; omega
theorem rd_nat (l : List Int) (i : Nat) : rd l (i : Int) = l.getD i 0 := by unfold rd; simp
theorem drop_rd {l : List Int} {i : Nat} (h : i < l.length) : l.drop i = rd l (i : Int) :: l.drop (i + 1) := by
 rw [rd_nat, List.drop_eq_getElem_cons h]
 simp [List.getD_eq_getElem?_getD, h]
theorem drop_getD {α : Type} {l : List α} {i : Nat} (z : α) (h : i < l.length) : l.drop i = l.getD i z :: l.drop (i + 1) := by
 rw [List.drop_eq_getElem_cons h]
 simp [List.getD_eq_getElem?_getD, h]

theorem mx_eq (a b : Int) : mx a b = max a b := by unfold mx; split <;> omega
theorem mn_eq (a b : Int) : mn a b = min a b := by unfold mn; split <;> omega
theorem within_eq (a b c : Int) : L_within.f a b c = some (decide (b ≤ a ∧ a ≤ c)) := by
 unfold L_within.f
 by_cases h : b ≤ a <;> simp [h]
theorem Within_eq (a b c : Int) : Bs_Within.f a b c = some (decide (b ≤ a ∧ a ≤ c)) := by
 unfold Bs_Within.f
 by_cases h : b ≤ a <;> simp [h]
theorem unless_eq (b : Bool) (e : Int) : L_unless.f b e = some (if b = true then 0 else e) := by
 unfold L_unless.f
 cases b <;> simp
def fnz : List Int → Int
 | [] => 0
 | x :: r => if x = 0 then fnz r else x

theorem first_l0 (l : List Int) (hl : l.length < 4611686018427387904) : ∀ (n i : Nat), i + n = l.length → Ev (fun k => L_first.l0 k l (l.length : Int) (i : Int)) (fnz (l.drop i))
 | 0, i, h => by
  refine Ev.succ (f := fun k => L_first.l0 k l (l.length : Int) (i : Int)) ?_; have h1 : ¬ (i : Int) < (l.length : Int) := by omega
  simp only [L_first.l0, h1, if_false]; rw [show l.drop i = [] from List.drop_eq_nil_of_le (by omega)]; exact Ev.some
 | n + 1, i, h => by
  refine Ev.succ (f := fun k => L_first.l0 k l (l.length : Int) (i : Int)) ?_; have h1 : (i : Int) < (l.length : Int) := by omega
  have h2 : (0 : Int) ≤ (i : Int) := by omega
  simp only [L_first.l0, h1, h2, if_true, up (show i < 4611686018427387904 by omega)]; rw [drop_rd (show i < l.length by omega)]; unfold fnz
  by_cases e : rd l (i : Int) = 0
  ·simp only [e, if_true]; exact first_l0 l hl n (i + 1) (by omega)
  ·simp only [e, if_false]; exact Ev.some
theorem first_ev (l : List Int) (hl : l.length < 4611686018427387904) : Ev (fun k => L_first.f k l) (fnz l) := first_l0 l hl l.length 0 (by omega)

theorem floor_core {a b : Int} (hb : 0 < b) (ha : -4611686018427387904 ≤ a ∧ a ≤ 4611686018427387904) :
  (if Int.tmod a b < 0 then some (wrap64 (wrap64 (Int.tdiv a b) - 1)) else some (wrap64 (Int.tdiv a b))) = some (a / b) := by
 have h1 : a.tdiv b * b + a.tmod b = a := Int.tdiv_mul_add_tmod a b; have h2 : a / b * b + a % b = a := Int.ediv_mul_add_emod a b; have h3 := Int.emod_nonneg a (show b ≠ 0 by omega); have h4 := Int.emod_lt_of_pos a hb; have h5 : (a.tmod b).natAbs < b.natAbs := by rw [Int.natAbs_tmod]; exact Nat.mod_lt _ (by omega)
 have h6 : (a.tdiv b).natAbs ≤ a.natAbs := by rw [Int.natAbs_tdiv]; exact Nat.div_le_self _ _
 have key : ∀ q r p s : Int, q * b + r = p * b + s → -b < r → r < b → 0 ≤ s → s < b → (r < 0 → p = q - 1) ∧ (0 ≤ r → p = q) := by
  intro q r p s h hr1 hr2 hs1 hs2; have e : (q - p) * b = s - r := by rw [Int.sub_mul]; omega
  constructor
  ·intro hr; have u1 : 0 < q - p := by
    apply Int.lt_of_not_ge; intro hc
    have := Int.mul_le_mul_of_nonneg_right hc (show 0 ≤ b by omega)
    omega
   have u2 : q - p < 2 := by
    apply Int.lt_of_not_ge; intro hc
    have := Int.mul_le_mul_of_nonneg_right hc (show 0 ≤ b by omega)
    omega
   omega
  ·intro hr; have u1 : -1 < q - p := by
    apply Int.lt_of_not_ge; intro hc
    have := Int.mul_le_mul_of_nonneg_right hc (show 0 ≤ b by omega)
    omega
   have u2 : q - p < 1 := by
    apply Int.lt_of_not_ge; intro hc
    have := Int.mul_le_mul_of_nonneg_right hc (show 0 ≤ b by omega)
    omega
   omega
 obtain ⟨k1, k2⟩ := key (a.tdiv b) (a.tmod b) (a / b) (a % b) (by omega) (by omega) (by omega) h3 h4
 by_cases hr : a.tmod b < 0
 ·rw [if_pos hr, k1 hr, w64 (n := a.tdiv b) (by omega), w64 (by omega)]
 ·rw [if_neg hr, k2 (by omega), w64 (by omega)]
theorem Floor_eq {a b : Int} (hb : 0 < b) (ha : -4611686018427387904 ≤ a ∧ a ≤ 4611686018427387904) : Bs_Floor.f a b = some (a / b) := by
 unfold Bs_Floor.f; rw [if_neg (by omega)]; exact floor_core hb ha
theorem CopyInts_eq (l : List Int) (h : l.length < 4611686018427) : Bs_CopyInts.f l = some l := by
 unfold Bs_CopyInts.f; simp only [Option.bind_some, List.length_nil, List.nil_append]; rw [if_pos (by omega)]
theorem both_eq (a b : Int) : Lw_both.f a b = some (if a = 0 then b else a) := by
 unfold Lw_both.f; split <;> rfl
def chk {α : Type} (p : α → Int) : List α → Nat → Int × Int
 | [], _ => (0, 0)
 | x :: r, i => if p x = 0 then chk p r (i + 1) else ((i : Int), p x)
theorem chk_all {α : Type} {p : α → Int} : ∀ {l : List α} {i : Nat}, (chk p l i).2 = 0 → ∀ x ∈ l, p x = 0
 | [], i, _ => by simp
 | y :: r, i, h => by
  unfold chk at h
  split at h <;> rename_i e
  ·intro x hx
   rcases List.mem_cons.mp hx with rfl | hx
   ·exact e
   ·exact chk_all h x hx
  ·exact absurd h e
theorem awake_ev : Ev (fun k => Lw_awake.f k) true :=
 Ev.of_mono (k := 1500) (fun k => Lw_awake.mono k) (by kernel_rfl)
def hE (x : Int) : Int := if 0 ≤ x ∧ x ≤ 20000 then 0 else 2
theorem isort_length (l : List Int) : (isort l).length = l.length := (isort_perm l).length_eq
theorem sorted_take {S : List Int} (hs : S.Pairwise (fun a b => a ≤ b)) {i : Nat} (hi : i < S.length) : (∀ x ∈ S.take (i + 1), x ≤ S.getD i 0) ∧ (∀ x ∈ S.drop i, S.getD i 0 ≤ x) := by
 have e : S = S.take i ++ (S.getD i 0 :: S.drop (i + 1)) := by rw [← drop_getD 0 hi, List.take_append_drop]
 rw [e] at hs; obtain ⟨_, h2, h3⟩ := List.pairwise_append.mp hs; obtain ⟨h4, _⟩ := List.pairwise_cons.mp h2
 constructor
 ·intro x hx; rw [List.take_add_one] at hx
  rcases List.mem_append.mp hx with hx | hx
  ·exact h3 x hx _ List.mem_cons_self
  ·rw [show S[i]? = some (S.getD i 0) by simp [List.getD_eq_getElem?_getD, hi]] at hx
   simp at hx; rw [hx]; simp
 ·intro x hx; rw [drop_getD 0 hi] at hx
  rcases List.mem_cons.mp hx with rfl | hx
  ·exact Int.le_refl _
  ·exact h4 x hx
def Asc (x : List Int) : Prop := x.Pairwise (fun a b => a < b)
theorem Asc_uniq : ∀ {x y : List Int}, Asc x → Asc y → (∀ a, a ∈ x ↔ a ∈ y) → x = y
 | [], [], _, _, _ => rfl
 | [], b :: y, _, _, h => absurd ((h b).mpr List.mem_cons_self) (by simp)
 | a :: x, [], _, _, h => absurd ((h a).mp List.mem_cons_self) (by simp)
 | a :: x, b :: y, hx, hy, h => by
  obtain ⟨x1, x2⟩ := List.pairwise_cons.mp hx; obtain ⟨y1, y2⟩ := List.pairwise_cons.mp hy; have e : a = b := by
   rcases List.mem_cons.mp ((h a).mp List.mem_cons_self) with e | e
   ·exact e
   ·rcases List.mem_cons.mp ((h b).mpr List.mem_cons_self) with e2 | e2
    ·exact e2.symm
    ·have := x1 b e2; have := y1 a e; omega
  subst e; rw [Asc_uniq x2 y2 (fun c => ?_)]
  constructor
  ·intro hc
   rcases List.mem_cons.mp ((h c).mp (List.mem_cons_of_mem _ hc)) with e2 | e2
   ·have := x1 c hc; omega
   ·exact e2
  ·intro hc
   rcases List.mem_cons.mp ((h c).mpr (List.mem_cons_of_mem _ hc)) with e2 | e2
   ·have := y1 c hc; omega
   ·exact e2
theorem compact_up (S : List Int) (hs : S.Pairwise (fun a b => a ≤ b)) : ∀ m, 0 < m → m ≤ S.length → Asc (Lib.compactUpTo S.toArray m) ∧ (∀ a ∈ Lib.compactUpTo S.toArray m, a ≤ S.getD (m - 1) 0) ∧ (∀ a, a ∈ Lib.compactUpTo S.toArray m ↔ ∃ j, j < m ∧ S.getD j 0 = a) := by
  have hg : ∀ j, j < S.length → S.toArray[j]! = S.getD j 0 := by
    intro j hj; rw [getElem!_pos S.toArray j (by simpa using hj)]
    simp [List.getD_eq_getElem?_getD, hj]
  intro m
  induction m with
  | zero => intro h; omega
  | succ m ih =>
    intro _ hm; rw [Lib.compactUpTo_succ, hg m (by omega)]
    by_cases h0 : m = 0
    · subst h0; rw [show Lib.keeps S.toArray 0 = true from Lib.keeps_lt_one _ 0 (by omega), show Lib.compactUpTo S.toArray 0 = [] from rfl, if_pos rfl, List.nil_append]; refine ⟨List.pairwise_singleton _ _, fun a ha => ?_, fun a => ?_⟩
      · simp at ha; subst ha; simp
      · simp only [List.mem_singleton]
        constructor
        · intro e; exact ⟨0, by omega, e.symm⟩
        · rintro ⟨j, hj, e⟩; obtain rfl : j = 0 := by omega
          exact e.symm
    · obtain ⟨i1, i2, i3⟩ := ih (by omega) (by omega); have hle : S.getD (m - 1) 0 ≤ S.getD m 0 := by
        have := (sorted_take hs (i := m - 1) (by omega)).2; have hmem : S.getD m 0 ∈ S.drop (m - 1) := by
          rw [drop_getD 0 (show m - 1 < S.length by omega), show m - 1 + 1 = m by omega, drop_getD 0 (show m < S.length by omega)]; exact List.mem_cons_of_mem _ List.mem_cons_self
        exact this _ hmem
      by_cases hk : S.getD m 0 = S.getD (m - 1) 0
      · rw [Lib.keeps_neg (by omega) (by rw [hg m (by omega), hg (m - 1) (by omega)]; exact hk), if_neg (by simp), List.append_nil]; refine ⟨i1, fun a ha => by have := i2 a ha; rw [show m + 1 - 1 = m by omega]; omega, fun a => ?_⟩; rw [i3 a]
        constructor
        · rintro ⟨j, hj, e⟩; exact ⟨j, by omega, e⟩
        · rintro ⟨j, hj, e⟩
          by_cases c : j = m
          · subst c; exact ⟨j - 1, by omega, by rw [← hk]; exact e⟩
          · exact ⟨j, by omega, e⟩
      · rw [Lib.keeps_pos (by rw [hg m (by omega), hg (m - 1) (by omega)]; exact hk), if_pos rfl]; refine ⟨List.pairwise_append.mpr ⟨i1, List.pairwise_singleton _ _, fun a ha b hb => ?_⟩, fun a ha => ?_, fun a => ?_⟩
        · simp at hb; subst hb; have := i2 a ha; simp only [List.getD_eq_getElem?_getD] at *; omega
        · rw [show m + 1 - 1 = m by omega]
          rcases List.mem_append.mp ha with ha | ha
          · have := i2 a ha; omega
          · simp at ha; subst ha; simp
        · rw [List.mem_append, i3 a, List.mem_singleton]
          constructor
          · rintro (⟨j, hj, e⟩ | e)
            · exact ⟨j, by omega, e⟩
            · exact ⟨m, by omega, e.symm⟩
          · rintro ⟨j, hj, e⟩
            by_cases c : j = m
            · subst c; exact .inr e.symm
            · exact .inl ⟨j, by omega, e⟩
theorem compact_isort (x : List Int) (h : 0 < x.length) : Asc (Lib.compact (isort x)) ∧ ∀ a, a ∈ Lib.compact (isort x) ↔ a ∈ x := by
 have hl := isort_length x; obtain ⟨h1, _, h3⟩ := compact_up (isort x) (isort_sorted x) (isort x).length (by omega) (Nat.le_refl _); refine ⟨h1, fun a => ?_⟩; rw [← (isort_perm x).mem_iff]; refine (h3 a).trans ⟨?_, fun ha => ?_⟩
 ·rintro ⟨j, hj, rfl⟩
  simp [List.getD_eq_getElem?_getD, hj]
 ·obtain ⟨j, hj, e⟩ := List.getElem_of_mem ha; exact ⟨j, hj, by simp [List.getD_eq_getElem?_getD, hj, e]⟩

def t4 (w : Int) (y : S108) : List Int := [y.f0, y.f1, y.f0 + w, y.f1 + w]
def t4s (w : Int) : List S108 → List Int
 | [] => []
 | y :: r => t4 w y ++ t4s w r
theorem mem_t4s (w : Int) (a : Int) : ∀ l : List S108, a ∈ t4s w l ↔ ∃ y ∈ l, a ∈ t4 w y
 | [] => by simp [t4s]
 | y :: r => by simp [t4s, mem_t4s w a r]
theorem t4s_length (w : Int) : ∀ l : List S108, (t4s w l).length = 4 * l.length
 | [] => rfl
 | y :: r => by simp only [t4s, List.length_append, t4s_length w r, List.length_cons]; simp [t4]; omega
theorem rd108_drop {l : List S108} {i : Nat} (h : i < l.length) : l.drop i = rd_T108 l (i : Int) :: l.drop (i + 1) := by
 unfold rd_T108; exact drop_getD z108 h
theorem rd108_getD (l : List S108) (i : Nat) : rd_T108 l (i : Int) = l.getD i z108 := by unfold rd_T108; simp
theorem rd108_mem {l : List S108} {i : Nat} (h : i < l.length) : rd_T108 l (i : Int) ∈ l := by
 have : rd_T108 l (i : Int) ∈ l.drop i := by rw [rd108_drop h]; exact List.mem_cons_self
 exact List.mem_of_mem_drop this
def ok8 (y : S108) : Prop := (0 ≤ y.f0 ∧ y.f0 ≤ 1000000) ∧ (0 ≤ y.f1 ∧ y.f1 ≤ 1000000) ∧ (0 ≤ y.f2 ∧ y.f2 ≤ 10000) ∧ y.f0 < y.f1
theorem turns_l0 (l : List S108) (w : Int) (hw : 1 ≤ w ∧ w ≤ 1000000) (hb : ∀ y ∈ l, ok8 y) (hl : l.length ≤ 20) : ∀ (n i : Nat) (o : List Int), i + n = l.length → 0 < o.length → o.length = 4 * i + 1 →
  Ev (fun k => L_shots_turns.l0 k w o l (l.length : Int) (i : Int)) (Lib.compact (isort (o ++ t4s w (l.drop i))))
 | 0, i, o, h, ho, hol => by
  refine Ev.succ ?_; rw [show l.drop i = [] from List.drop_eq_nil_of_le (by omega)]; simp only [L_shots_turns.l0, show ¬ (i : Int) < (l.length : Int) by omega, if_false, slices_Sort_int_int.f, slices_Compact_int_int.f, show o.length < 4611686018427387904 by omega, if_true, Option.bind_some, isort_length, t4s, List.append_nil]; exact Ev.some
 | n + 1, i, o, h, ho, hol => by
  refine Ev.succ ?_; have hi : i < l.length := by omega
  obtain ⟨b1, b2, b3, b4⟩ := hb _ (rd108_mem hi); rw [rd108_drop hi]; simp only [L_shots_turns.l0, show (i : Int) < (l.length : Int) by omega, show (0 : Int) ≤ (i : Int) by omega, if_true, Option.bind_some, List.length_cons, List.length_nil, show o.length + (0 + 1 + 1 + 1 + 1) < 17592186044416 by omega, up (show i < 4611686018427387904 by omega)]; rw [w64 (n := (rd_T108 l (i : Int)).f0 + w) (by omega), w64 (n := (rd_T108 l (i : Int)).f1 + w) (by omega)]; have := turns_l0 l w hw hb hl n (i + 1) (o ++ t4 w (rd_T108 l (i : Int))) (by omega) (by simp; omega) (by simp [t4]; omega); rw [List.append_assoc] at this; exact this
def Trn (l : List S108) (w : Int) (T : List Int) : Prop := Asc T ∧ ∀ a, a ∈ T ↔ a = 0 ∨ a ∈ t4s w l
theorem turns_ev (l : List S108) (w : Int) (hw : 1 ≤ w ∧ w ≤ 1000000) (hb : ∀ y ∈ l, ok8 y) (hl : l.length ≤ 20) : ∃ T, (Trn l w T ∧ T.length ≤ 81) ∧ Ev (fun k => L_shots_turns.f k l w) T := by
 have h1 := turns_l0 l w hw hb hl l.length 0 [0] (by omega) (by simp) (by simp); rw [List.drop_zero] at h1; obtain ⟨c1, c2⟩ := compact_isort ([0] ++ t4s w l) (by simp); refine ⟨_, ⟨⟨c1, fun a => by rw [c2 a]; simp⟩, ?_⟩, h1⟩; have : (Lib.compact (isort ([0] ++ t4s w l))).length ≤ (isort ([0] ++ t4s w l)).length := by
  unfold Lib.compact Lib.compactUpTo; rw [List.length_map]; exact Nat.le_trans (List.length_filter_le _ _) (by simp)
 rw [isort_length, List.length_append, t4s_length] at this; simp only [List.length_cons, List.length_nil] at this
 omega
theorem put_in {x : List Int} (hx : Asc x) {j : Nat} (hj : j ≤ x.length) {t : Int} (h1 : ∀ p, p < j → x.getD p 0 < t) (h2 : j < x.length → t < x.getD j 0) : Asc (x.take j ++ [t] ++ x.drop j) ∧ ∀ a, a ∈ x.take j ++ [t] ++ x.drop j ↔ a ∈ x ∨ a = t := by
 have e := List.take_append_drop j x; have hx' := hx; rw [← e] at hx'; obtain ⟨a1, a2, a3⟩ := List.pairwise_append.mp hx'; have m1 : ∀ a ∈ x.take j, a < t := by
  intro a ha; obtain ⟨p, hp, e1⟩ := List.getElem_of_mem ha; rw [List.length_take] at hp; have := h1 p (by omega); rw [← e1, List.getElem_take]
  simpa [List.getD_eq_getElem?_getD, show p < x.length by omega] using this
 have m2 : ∀ a ∈ x.drop j, t < a := by
  intro a ha
  by_cases c : j < x.length
  ·rw [drop_getD 0 c] at ha a2; have := h2 c; obtain ⟨q1, _⟩ := List.pairwise_cons.mp a2
   rcases List.mem_cons.mp ha with rfl | ha
   ·exact this
   ·have := q1 a ha; omega
  ·rw [List.drop_eq_nil_of_le (by omega)] at ha; simp at ha
 constructor
 ·refine List.pairwise_append.mpr ⟨List.pairwise_append.mpr ⟨a1, List.pairwise_singleton _ _, fun a ha b hb => by simp at hb; subst hb; exact m1 a ha⟩, a2, fun a ha b hb => ?_⟩
  rcases List.mem_append.mp ha with ha | ha
  ·exact a3 a ha b hb
  ·simp at ha; subst ha; exact m2 b hb
 ·intro a; have e2 : a ∈ x ↔ a ∈ x.take j ∨ a ∈ x.drop j := by rw [← List.mem_append, e]
  rw [e2]; simp only [List.mem_append, List.mem_singleton]
  constructor
  ·rintro ((h | h) | h)
   ·exact .inl (.inl h)
   ·exact .inr h
   ·exact .inl (.inr h)
  ·rintro ((h | h) | h)
   ·exact .inl (.inl h)
   ·exact .inr h
   ·exact .inl (.inr h)
theorem Turns_l2 (l : List S108) (w : Int) (i : Int) (t c0 c1 c2 c3 : Int) (q : Nat) (hq : q < 4) (x : List Int) (hx : Asc x) (hxl : x.length ≤ 1000) (P : List Int → Prop)
  (hR : ∀ x' : List Int, Asc x' → x'.length ≤ x.length + 1 → (∀ a, a ∈ x' ↔ a ∈ x ∨ a = t) → ∃ r, P r ∧ Ev (fun k => Rf_Turns.l1 k l w x' i ((q + 1 : Nat) : Int) c0 c1 c2 c3) r) :
  ∀ (n j : Nat), j + n = x.length → (∀ p, p < j → x.getD p 0 < t) → ∃ r, P r ∧ Ev (fun k => Rf_Turns.l2 k l w x i t (j : Int) (q : Int) c0 c1 c2 c3) r
 | 0, j, h, hb => by
  obtain ⟨p1, p2⟩ := put_in hx (j := j) (by omega) hb (fun h => by omega); obtain ⟨r, r1, r2⟩ := hR _ p1 (by simp; omega) p2; refine ⟨r, r1, Ev.succ ?_⟩; simp only [Rf_Turns.l2, show ¬ (j : Int) < (x.length : Int) by omega, if_false, show (0 : Int) ≤ (j : Int) by omega, show (j : Int) ≤ (x.length : Int) by omega, if_true, Int.toNat_natCast, CopyInts_eq (x.take j) (by rw [List.length_take]; omega), Option.bind_some, List.length_take, show min j x.length < 17592186044416 by omega, List.length_append, List.length_cons, List.length_nil, List.length_drop, show min j x.length + (0 + 1) + (x.length - j) < 17592186044416 by omega, up (show q < 4611686018427387904 by omega)]; exact r2
 | n + 1, j, h, hb => by
  have hj : j < x.length := by omega
  have ej : rd x (j : Int) = x.getD j 0 := rd_nat x j
  by_cases h1 : x.getD j 0 < t
  ·obtain ⟨r, r1, r2⟩ := Turns_l2 l w i t c0 c1 c2 c3 q hq x hx hxl P hR n (j + 1) (by omega) (fun p hp => by
    by_cases c : p = j
    ·subst c; exact h1
    ·exact hb p (by omega))
   refine ⟨r, r1, Ev.succ ?_⟩; simp only [Rf_Turns.l2, show (j : Int) < (x.length : Int) by omega, show (0 : Int) ≤ (j : Int) by omega, if_true, ej, h1, up (show j < 4611686018427387904 by omega)]; exact r2
  ·by_cases h2 : x.getD j 0 = t
   ·obtain ⟨r, r1, r2⟩ := hR x hx (by omega) (fun a => ⟨fun ha => .inl ha, fun ha => by
     rcases ha with ha | ha
     ·exact ha
     ·rw [ha, ← h2]; simp [List.getD_eq_getElem?_getD, hj]⟩)
    refine ⟨r, r1, Ev.succ ?_⟩; simp only [Rf_Turns.l2, show (j : Int) < (x.length : Int) by omega, show (0 : Int) ≤ (j : Int) by omega, if_true, ej, h1, if_false, up (show q < 4611686018427387904 by omega)]; simp only [h2, if_true]; exact r2
   ·obtain ⟨p1, p2⟩ := put_in hx (j := j) (by omega) hb (fun _ => by omega); obtain ⟨r, r1, r2⟩ := hR _ p1 (by simp; omega) p2; refine ⟨r, r1, Ev.succ ?_⟩; simp only [Rf_Turns.l2, show (j : Int) < (x.length : Int) by omega, show (0 : Int) ≤ (j : Int) by omega, show (j : Int) ≤ (x.length : Int) by omega, if_true, ej, h1, h2, if_false, Int.toNat_natCast, CopyInts_eq (x.take j) (by rw [List.length_take]; omega), Option.bind_some, List.length_take, show min j x.length < 17592186044416 by omega, List.length_append, List.length_cons, List.length_nil, List.length_drop, show min j x.length + (0 + 1) + (x.length - j) < 17592186044416 by omega, up (show q < 4611686018427387904 by omega)]; exact r2
theorem Turns_l0 (l : List S108) (w : Int) (hw : 1 ≤ w ∧ w ≤ 1000000) (hb : ∀ y ∈ l, ok8 y) (hl : l.length ≤ 20) : ∀ (n i : Nat) (x : List Int), i + n = l.length → Asc x → x.length ≤ 1 + 4 * i → (∀ a, a ∈ x ↔ a = -1 ∨ a + 1 ∈ t4s w (l.take i)) →
  ∃ r, (Asc r ∧ ∀ a, a ∈ r ↔ a = -1 ∨ a + 1 ∈ t4s w l) ∧ Ev (fun k => Rf_Turns.l0 k l w x (i : Int)) r
 | 0, i, x, h, hx, hxl, hm => by
  rw [List.take_of_length_le (by omega)] at hm; refine ⟨x, ⟨hx, hm⟩, Ev.succ ?_⟩; simp only [Rf_Turns.l0, show ¬ (i : Int) < (l.length : Int) by omega, if_false]; exact Ev.some
 | n + 1, i, x, h, hx, hxl, hm => by
  have hi : i < l.length := by omega
  obtain ⟨b1, b2, b3, b4⟩ := hb _ (rd108_mem hi); obtain ⟨y, ey⟩ : ∃ y, y = rd_T108 l (i : Int) := ⟨_, rfl⟩; rw [← ey] at b1 b2 b3 b4; have et : ∀ a, a ∈ t4s w (l.take (i + 1)) ↔ a ∈ t4s w (l.take i) ∨ a ∈ t4 w y := by
   intro a; have e3 : l.take (i + 1) = l.take i ++ [y] := by rw [List.take_add_one, ey, rd108_getD]; simp [List.getD_eq_getElem?_getD, hi]
   rw [mem_t4s, mem_t4s, e3]
   constructor
   ·rintro ⟨z, hz, ha⟩
    rcases List.mem_append.mp hz with hz | hz
    ·exact Or.inl ⟨z, hz, ha⟩
    ·rw [List.mem_singleton] at hz; rw [hz] at ha; exact Or.inr ha
   ·rintro (⟨z, hz, ha⟩ | ha)
    ·exact ⟨z, List.mem_append.mpr (Or.inl hz), ha⟩
    ·exact ⟨y, List.mem_append.mpr (Or.inr (List.mem_singleton.mpr rfl)), ha⟩
  have et4 : ∀ a, a ∈ t4 w y ↔ a = y.f0 ∨ a = y.f1 ∨ a = y.f0 + w ∨ a = y.f1 + w := fun a => by simp [t4]
  let P : List Int → Prop := fun r => Asc r ∧ ∀ a, a ∈ r ↔ a = -1 ∨ a + 1 ∈ t4s w l
  have k4 : ∀ x' : List Int, Asc x' → x'.length ≤ 1 + 4 * (i + 1) → (∀ a, a ∈ x' ↔ a ∈ x ∨ a = y.f0 - 1 ∨ a = y.f1 - 1 ∨ a = y.f0 + w - 1 ∨ a = y.f1 + w - 1) → ∃ r, P r ∧ Ev (fun k => Rf_Turns.l1 k l w x' (i : Int) ((4 : Nat) : Int) (y.f0 - 1) (y.f1 - 1) (y.f0 + w - 1) (y.f1 + w - 1)) r := by
   intro x' a1 a2 a3; obtain ⟨r, r1, r2⟩ := Turns_l0 l w hw hb hl n (i + 1) x' (by omega) a1 a2 (fun a => by
    rw [a3 a, hm a, et (a + 1), et4 (a + 1)]
    constructor
    ·rintro ((h | h) | h | h | h | h)
     ·exact .inl h
     ·exact .inr (.inl h)
     ·exact .inr (.inr (.inl (by omega)))
     ·exact .inr (.inr (.inr (.inl (by omega))))
     ·exact .inr (.inr (.inr (.inr (.inl (by omega)))))
     ·exact .inr (.inr (.inr (.inr (.inr (by omega)))))
    ·rintro (h | h | h | h | h | h)
     ·exact .inl (.inl h)
     ·exact .inl (.inr h)
     ·exact .inr (.inl (by omega))
     ·exact .inr (.inr (.inl (by omega)))
     ·exact .inr (.inr (.inr (.inl (by omega))))
     ·exact .inr (.inr (.inr (.inr (by omega)))))
   refine ⟨r, r1, Ev.succ ?_⟩; simp only [Rf_Turns.l1, show ¬ ((4 : Nat) : Int) < 4 by omega, if_false, up (show i < 4611686018427387904 by omega)]; exact r2
  have k3 : ∀ x' : List Int, Asc x' → x'.length ≤ 4 + 4 * i → (∀ a, a ∈ x' ↔ a ∈ x ∨ a = y.f0 - 1 ∨ a = y.f1 - 1 ∨ a = y.f0 + w - 1) → ∃ r, P r ∧ Ev (fun k => Rf_Turns.l1 k l w x' (i : Int) ((3 : Nat) : Int) (y.f0 - 1) (y.f1 - 1) (y.f0 + w - 1) (y.f1 + w - 1)) r := by
   intro x' a1 a2 a3; obtain ⟨r, r1, r2⟩ := Turns_l2 l w (i : Int) (y.f1 + w - 1) (y.f0 - 1) (y.f1 - 1) (y.f0 + w - 1) (y.f1 + w - 1) 3 (by omega) x' a1 (by omega) P (fun x'' c1 c2 c3 => k4 x'' c1 (by omega) (fun a => by rw [c3 a, a3 a]; simp only [or_assoc])) x'.length 0 (by omega) (fun p hp => by omega); refine ⟨r, r1, Ev.succ ?_⟩; simp only [Rf_Turns.l1, show ((3 : Nat) : Int) < 4 by omega, show ¬ ((3 : Nat) : Int) = 0 by omega, show ¬ ((3 : Nat) : Int) = 1 by omega, show ¬ ((3 : Nat) : Int) = 2 by omega, show ((3 : Nat) : Int) = 3 from rfl, if_true, if_false]; exact r2
  have k2 : ∀ x' : List Int, Asc x' → x'.length ≤ 3 + 4 * i → (∀ a, a ∈ x' ↔ a ∈ x ∨ a = y.f0 - 1 ∨ a = y.f1 - 1) → ∃ r, P r ∧ Ev (fun k => Rf_Turns.l1 k l w x' (i : Int) ((2 : Nat) : Int) (y.f0 - 1) (y.f1 - 1) (y.f0 + w - 1) (y.f1 + w - 1)) r := by
   intro x' a1 a2 a3; obtain ⟨r, r1, r2⟩ := Turns_l2 l w (i : Int) (y.f0 + w - 1) (y.f0 - 1) (y.f1 - 1) (y.f0 + w - 1) (y.f1 + w - 1) 2 (by omega) x' a1 (by omega) P (fun x'' c1 c2 c3 => k3 x'' c1 (by omega) (fun a => by rw [c3 a, a3 a]; simp only [or_assoc])) x'.length 0 (by omega) (fun p hp => by omega); refine ⟨r, r1, Ev.succ ?_⟩; simp only [Rf_Turns.l1, show ((2 : Nat) : Int) < 4 by omega, show ¬ ((2 : Nat) : Int) = 0 by omega, show ¬ ((2 : Nat) : Int) = 1 by omega, show ((2 : Nat) : Int) = 2 from rfl, if_true, if_false]; exact r2
  have k1 : ∀ x' : List Int, Asc x' → x'.length ≤ 2 + 4 * i → (∀ a, a ∈ x' ↔ a ∈ x ∨ a = y.f0 - 1) → ∃ r, P r ∧ Ev (fun k => Rf_Turns.l1 k l w x' (i : Int) ((1 : Nat) : Int) (y.f0 - 1) (y.f1 - 1) (y.f0 + w - 1) (y.f1 + w - 1)) r := by
   intro x' a1 a2 a3; obtain ⟨r, r1, r2⟩ := Turns_l2 l w (i : Int) (y.f1 - 1) (y.f0 - 1) (y.f1 - 1) (y.f0 + w - 1) (y.f1 + w - 1) 1 (by omega) x' a1 (by omega) P (fun x'' c1 c2 c3 => k2 x'' c1 (by omega) (fun a => by rw [c3 a, a3 a]; simp only [or_assoc])) x'.length 0 (by omega) (fun p hp => by omega); refine ⟨r, r1, Ev.succ ?_⟩; simp only [Rf_Turns.l1, show ((1 : Nat) : Int) < 4 by omega, show ¬ ((1 : Nat) : Int) = 0 by omega, show ((1 : Nat) : Int) = 1 from rfl, if_true, if_false]; exact r2
  obtain ⟨r, r1, r2⟩ := Turns_l2 l w (i : Int) (y.f0 - 1) (y.f0 - 1) (y.f1 - 1) (y.f0 + w - 1) (y.f1 + w - 1) 0 (by omega) x hx (by omega) P (fun x'' c1 c2 c3 => k1 x'' c1 (by omega) (fun a => by rw [c3 a])) x.length 0 (by omega) (fun p hp => by omega); refine ⟨r, r1, Ev.succ ?_⟩; simp only [Rf_Turns.l0, show (i : Int) < (l.length : Int) by omega, show (0 : Int) ≤ (i : Int) by omega, if_true]; rw [← ey, w64 (n := y.f0 - 1) (by omega), w64 (n := y.f1 - 1) (by omega), w64 (n := y.f0 + w) (by omega), w64 (n := y.f1 + w) (by omega), w64 (n := y.f0 + w - 1) (by omega), w64 (n := y.f1 + w - 1) (by omega)]; refine Ev.succ (f := fun k => Rf_Turns.l1 k l w x (i : Int) 0 (y.f0 - 1) (y.f1 - 1) (y.f0 + w - 1) (y.f1 + w - 1)) ?_; simp only [Rf_Turns.l1, show (0 : Int) < 4 by omega, if_true]; exact r2
theorem Turns_ev (l : List S108) (w : Int) (hw : 1 ≤ w ∧ w ≤ 1000000) (hb : ∀ y ∈ l, ok8 y) (hl : l.length ≤ 20) (T : List Int) (hT : Trn l w T) : Ev (fun k => Rf_Turns.f k l w) (T.map (fun a => a - 1)) := by
 obtain ⟨r, ⟨r1, r2⟩, r3⟩ := Turns_l0 l w hw hb hl l.length 0 [-1] (by omega) (List.pairwise_singleton _ _) (by simp) (fun a => by simp [t4s]); have e : r = T.map (fun a => a - 1) := by
  refine Asc_uniq r1 ?_ (fun a => ?_)
  ·exact List.pairwise_map.mpr (hT.1.imp (fun h => by omega))
  ·rw [r2 a, List.mem_map]
   constructor
   ·intro h; refine ⟨a + 1, (hT.2 (a + 1)).mpr ?_, by omega⟩
    rcases h with h | h
    ·exact .inl (by omega)
    ·exact .inr h
   ·rintro ⟨b, hb, rfl⟩
    rcases (hT.2 b).mp hb with h | h
    ·exact .inl (by omega)
    ·exact .inr (by rw [show b - 1 + 1 = b by omega]; exact h)
 rw [e] at r3; exact r3
def u1 (y : S108) (s : Int) : Int := max 0 (min s y.f1 - y.f0)
def U (s : Int) : List S108 → Int
 | [] => 0
 | y :: r => y.f2 * u1 y s + U s r
def en (l : List S108) (w t : Int) : Int := U t l - U (t - w) l
theorem u1_in {y : S108} (h : ok8 y) (s : Int) : 0 ≤ u1 y s ∧ u1 y s ≤ 1000000 := by
 obtain ⟨h1, h2, h3, h4⟩ := h; unfold u1; omega
theorem mul_in {a b A B : Int} (ha : 0 ≤ a ∧ a ≤ A) (hb : 0 ≤ b ∧ b ≤ B) : 0 ≤ a * b ∧ a * b ≤ A * B :=
 ⟨Int.mul_nonneg ha.1 hb.1, Int.mul_le_mul ha.2 hb.2 hb.1 (by omega)⟩
theorem U_in {l : List S108} (s : Int) (h : ∀ y ∈ l, ok8 y) : 0 ≤ U s l ∧ U s l ≤ 10000000000 * (l.length : Int) := by
  induction l with
  | nil => simp [U]
  | cons y r ih =>
    have h1 := ih (fun z hz => h z (List.mem_cons_of_mem _ hz)); have h2 := h y List.mem_cons_self; have h3 := mul_in h2.2.2.1 (u1_in h2 s); simp only [U, List.length_cons]
    omega
theorem until_l0 (l : List S108) (s : Int) (hs : -10000000 ≤ s ∧ s ≤ 10000000) (hb : ∀ y ∈ l, ok8 y) (hl : l.length ≤ 20) : ∀ (n i : Nat) (a : Int), i + n = l.length → 0 ≤ a → a ≤ 10000000000 * (i : Int) →
  Ev (fun k => L_shots_until.l0 k s a l (l.length : Int) (i : Int)) (a + U s (l.drop i))
 | 0, i, a, h, _, _ => by
  refine Ev.succ ?_; rw [show l.drop i = [] from List.drop_eq_nil_of_le (by omega)]; simp only [L_shots_until.l0, show ¬ (i : Int) < (l.length : Int) by omega, if_false, U, Int.add_zero]; exact Ev.some
 | n + 1, i, a, h, h0, h1 => by
  refine Ev.succ ?_; have hi : i < l.length := by omega
  have hy := hb _ (rd108_mem hi); have h3 := mul_in hy.2.2.1 (u1_in hy s); obtain ⟨b1, b2, b3, b4⟩ := hy; rw [rd108_drop hi]; simp only [L_shots_until.l0, show (i : Int) < (l.length : Int) by omega, show (0 : Int) ≤ (i : Int) by omega, if_true, up (show i < 4611686018427387904 by omega), mn_eq, mx_eq]; rw [w64 (n := min s (rd_T108 l (i : Int)).f1 - (rd_T108 l (i : Int)).f0) (by omega)]; rw [show max 0 (min s (rd_T108 l (i : Int)).f1 - (rd_T108 l (i : Int)).f0) = u1 (rd_T108 l (i : Int)) s from rfl]; simp only [U]; generalize hp : (rd_T108 l (i : Int)).f2 * u1 (rd_T108 l (i : Int)) s = p at h3 ⊢; rw [w64 (n := p) (by omega), w64 (n := a + p) (by omega), ← Int.add_assoc]; exact until_l0 l s hs hb hl n (i + 1) (a + p) (by omega) (by omega) (by omega)
theorem until_ev (l : List S108) (s : Int) (hs : -10000000 ≤ s ∧ s ≤ 10000000) (hb : ∀ y ∈ l, ok8 y) (hl : l.length ≤ 20) : Ev (fun k => L_shots_until.f k l s) (U s l) := by
 have := until_l0 l s hs hb hl l.length 0 0 (by omega) (by omega) (by omega); rw [Int.zero_add, List.drop_zero] at this; exact this
theorem in_ev (l : List S108) (w t : Int) (hw : 1 ≤ w ∧ w ≤ 1000000) (ht : -5000000 ≤ t ∧ t ≤ 5000000) (hb : ∀ y ∈ l, ok8 y) (hl : l.length ≤ 20) : Ev (fun k => L_shots_in.f k l w t) (en l w t) := by
 unfold L_shots_in.f en; refine Ev.bind (until_ev l t (by omega) hb hl) ?_; rw [w64 (n := t - w) (by omega)]; refine Ev.bind (until_ev l (t - w) (by omega) hb hl) ?_; have h1 := U_in t hb; have h2 := U_in (t - w) hb; rw [w64 (by omega)]; exact Ev.some
def r1 (y : S108) (w t : Int) : Int := max 0 (min y.f1 t - max y.f0 (t - w))
theorem r1_eq {y : S108} (h : ok8 y) {w : Int} (hw : 0 ≤ w) (t : Int) : r1 y w t = u1 y t - u1 y (t - w) := by
 obtain ⟨h1, h2, h3, h4⟩ := h; unfold r1 u1; omega
theorem Energy_l0 (l : List S108) (w x : Int) (hw : 1 ≤ w ∧ w ≤ 1000000) (hx : -5000000 ≤ x ∧ x ≤ 4000000) (hb : ∀ y ∈ l, ok8 y) (hl : l.length ≤ 20) : ∀ (n i : Nat) (a : Int), i + n = l.length → 0 ≤ a → a ≤ 10000000000 * (i : Int) →
  Ev (fun k => Rf_Energy.l0 k l w x a (i : Int)) (a + en (l.drop i) w (x + 1))
 | 0, i, a, h, _, _ => by
  refine Ev.succ ?_; rw [show l.drop i = [] from List.drop_eq_nil_of_le (by omega)]; simp only [Rf_Energy.l0, show ¬ (i : Int) < (l.length : Int) by omega, if_false, en, U, Int.sub_self, Int.add_zero]; exact Ev.some
 | n + 1, i, a, h, h0, h1 => by
  refine Ev.succ ?_; have hi : i < l.length := by omega
  have hy := hb _ (rd108_mem hi); have hr := r1_eq hy (show 0 ≤ w by omega) (x + 1); have hr1 : 0 ≤ r1 (rd_T108 l (i : Int)) w (x + 1) ∧ r1 (rd_T108 l (i : Int)) w (x + 1) ≤ 1000000 := by
   obtain ⟨b1, b2, b3, b4⟩ := hy; unfold r1; omega
  have h3 := mul_in hy.2.2.1 hr1; obtain ⟨b1, b2, b3, b4⟩ := hy; rw [rd108_drop hi]; simp only [Rf_Energy.l0, show (i : Int) < (l.length : Int) by omega, show (0 : Int) ≤ (i : Int) by omega, if_true, up (show i < 4611686018427387904 by omega), mn_eq, mx_eq]; rw [w64 (n := x + 1) (by omega), w64 (n := x + 1 - w) (by omega), w64 (n := min (rd_T108 l (i : Int)).f1 (x + 1) - max (rd_T108 l (i : Int)).f0 (x + 1 - w)) (by omega)]; rw [show max 0 (min (rd_T108 l (i : Int)).f1 (x + 1) - max (rd_T108 l (i : Int)).f0 (x + 1 - w)) = r1 (rd_T108 l (i : Int)) w (x + 1) from rfl]; have e : a + en (rd_T108 l (i : Int) :: l.drop (i + 1)) w (x + 1) = a + (rd_T108 l (i : Int)).f2 * r1 (rd_T108 l (i : Int)) w (x + 1) + en (l.drop (i + 1)) w (x + 1) := by
   rw [hr, Int.mul_sub]; unfold en; simp only [U]; omega
  rw [e]; generalize hp : (rd_T108 l (i : Int)).f2 * r1 (rd_T108 l (i : Int)) w (x + 1) = p at h3 ⊢; rw [w64 (n := p) (by omega), w64 (n := a + p) (by omega)]; exact Energy_l0 l w x hw hx hb hl n (i + 1) (a + p) (by omega) (by omega) (by omega)
theorem Energy_ev (l : List S108) (w x : Int) (hw : 1 ≤ w ∧ w ≤ 1000000) (hx : -5000000 ≤ x ∧ x ≤ 4000000) (hb : ∀ y ∈ l, ok8 y) (hl : l.length ≤ 20) : Ev (fun k => Rf_Energy.f k l w x) (en l w (x + 1)) := by
 have := Energy_l0 l w x hw hx hb hl l.length 0 0 (by omega) (by omega) (by omega); rw [Int.zero_add, List.drop_zero] at this; exact this
theorem en_in {l : List S108} {w : Int} (hw : 0 ≤ w) (t : Int) (hb : ∀ y ∈ l, ok8 y) : 0 ≤ en l w t ∧ en l w t ≤ 10000000000 * (l.length : Int) := by
  induction l with
  | nil => simp [en, U]
  | cons y r ih =>
    have h1 := ih (fun z hz => hb z (List.mem_cons_of_mem _ hz)); have hy := hb y List.mem_cons_self; have hr := r1_eq hy hw t; have hr1 : 0 ≤ r1 y w t ∧ r1 y w t ≤ 1000000 := by
      obtain ⟨b1, b2, b3, b4⟩ := hy; unfold r1; omega
    have h3 := mul_in hy.2.2.1 hr1; have e : en (y :: r) w t = y.f2 * r1 y w t + en r w t := by rw [hr, Int.mul_sub]; unfold en; simp only [U]; omega
    rw [e]; simp only [List.length_cons]; omega
theorem en_mono {l : List S108} {v w : Int} (hv : 0 ≤ v) (hvw : v ≤ w) (t : Int) (hb : ∀ y ∈ l, ok8 y) : en l v t ≤ en l w t := by
  induction l with
  | nil => simp [en, U]
  | cons y r ih =>
    have h1 := ih (fun z hz => hb z (List.mem_cons_of_mem _ hz)); have hy := hb y List.mem_cons_self; have hle : u1 y (t - w) ≤ u1 y (t - v) := by unfold u1; omega
    have h3 : y.f2 * u1 y (t - w) ≤ y.f2 * u1 y (t - v) := Int.mul_le_mul_of_nonneg_left hle hy.2.2.1.1; unfold en at *; simp only [U]; omega
theorem U_zero {l : List S108} {s : Int} (hs : s ≤ 0) (hb : ∀ y ∈ l, ok8 y) : U s l = 0 := by
 induction l with
 | nil => rfl
 | cons y r ih =>
  have hy := hb y List.mem_cons_self; have e : u1 y s = 0 := by obtain ⟨b1, b2, b3, b4⟩ := hy; unfold u1; omega
  simp only [U, e, ih (fun z hz => hb z (List.mem_cons_of_mem _ hz)), Int.mul_zero, Int.add_zero]
theorem en_zero {l : List S108} {w : Int} (hw : 0 ≤ w) (hb : ∀ y ∈ l, ok8 y) : en l w 0 = 0 := by
 unfold en; rw [U_zero (Int.le_refl 0) hb, U_zero (by omega) hb]; rfl
theorem en_late {l : List S108} {w t : Int} (hw : 0 ≤ w) (hb : ∀ y ∈ l, ok8 y) (ht : ∀ y ∈ l, y.f1 + w ≤ t) : en l w t = 0 := by
 induction l with
 | nil => rfl
 | cons y r ih =>
  have h1 := ih (fun z hz => hb z (List.mem_cons_of_mem _ hz)) (fun z hz => ht z (List.mem_cons_of_mem _ hz)); have hy := hb y List.mem_cons_self; have h2 := ht y List.mem_cons_self; have e : u1 y t = u1 y (t - w) := by obtain ⟨b1, b2, b3, b4⟩ := hy; unfold u1; omega
  unfold en at *; simp only [U, e]; omega
def Calm (l : List S108) (A B : Int) : Prop := ∀ y ∈ l, (y.f0 ≤ A ∨ B ≤ y.f0) ∧ (y.f1 ≤ A ∨ B ≤ y.f1)
theorem U_line : ∀ {l : List S108} {A B : Int}, (∀ y ∈ l, ok8 y) → Calm l A B → ∃ S : Int, ∀ t, A ≤ t → t ≤ B → U t l = U A l + S * (t - A)
 | [], _, _, _, _ => ⟨0, fun t _ _ => by simp [U]⟩
 | y :: r, A, B, hb, hc => by
  obtain ⟨S, hS⟩ := U_line (l := r) (A := A) (B := B) (fun z hz => hb z (List.mem_cons_of_mem _ hz)) (fun z hz => hc z (List.mem_cons_of_mem _ hz)); obtain ⟨b1, b2, b3, b4⟩ := hb y List.mem_cons_self; obtain ⟨c1, c2⟩ := hc y List.mem_cons_self; have key : (∀ t, A ≤ t → t ≤ B → u1 y t = u1 y A) ∨ (∀ t, A ≤ t → t ≤ B → u1 y t = u1 y A + (t - A)) := by
   unfold u1
   by_cases h1 : y.f0 ≤ A
   ·by_cases h2 : y.f1 ≤ A
    ·exact .inl (fun t h3 h4 => by omega)
    ·exact .inr (fun t h3 h4 => by omega)
   ·exact .inl (fun t h3 h4 => by omega)
  rcases key with k | k
  ·exact ⟨S, fun t h1 h2 => by simp only [U]; rw [k t h1 h2, hS t h1 h2]; omega⟩
  ·refine ⟨y.f2 + S, fun t h1 h2 => ?_⟩; simp only [U]; rw [k t h1 h2, hS t h1 h2, Int.mul_add, Int.add_mul]; omega
theorem en_line {l : List S108} {w A B : Int} (hb : ∀ y ∈ l, ok8 y) (h1 : Calm l A B) (h2 : Calm l (A - w) (B - w)) : ∃ S : Int, ∀ t, A ≤ t → t ≤ B → en l w t = en l w A + S * (t - A) := by
 obtain ⟨S, hS⟩ := U_line hb h1; obtain ⟨R, hR⟩ := U_line hb h2; refine ⟨S - R, fun t a b => ?_⟩; unfold en; rw [hS t a b, hR (t - w) (by omega) (by omega), Int.sub_mul, show t - w - (A - w) = t - A by omega]
 omega
theorem Trn_calm {l : List S108} {w : Int} {T : List Int} (hT : Trn l w T) {i : Nat} (hi : i + 1 < T.length) : Calm l (T.getD i 0) (T.getD (i + 1) 0) ∧ Calm l (T.getD i 0 - w) (T.getD (i + 1) 0 - w) ∧ T.getD i 0 < T.getD (i + 1) 0 := by
 obtain ⟨h1, h2⟩ := hT; have hlt : ∀ p q, p < q → q < T.length → T.getD p 0 < T.getD q 0 := by
  intro p q hpq hq; have := List.pairwise_iff_getElem.mp h1 p q (by omega) hq hpq
  simpa [List.getD_eq_getElem?_getD, hq, show p < T.length by omega] using this
 have key : ∀ a ∈ T, a ≤ T.getD i 0 ∨ T.getD (i + 1) 0 ≤ a := by
  intro a ha; obtain ⟨q, hq, e⟩ := List.getElem_of_mem ha; have e2 : a = T.getD q 0 := by rw [← e]; simp [List.getD_eq_getElem?_getD, hq]
  rw [e2]
  rcases Nat.lt_or_ge i q with h | h
  ·right
   by_cases c : q = i + 1
   ·subst c; exact Int.le_refl _
   ·have := hlt (i + 1) q (by omega) hq; omega
  ·left
   by_cases c : q = i
   ·subst c; exact Int.le_refl _
   ·have := hlt q i (by omega) (by omega); omega
 have hmem : ∀ y ∈ l, ∀ a ∈ t4 w y, a ∈ T := fun y hy a ha => (h2 a).mpr (.inr ((mem_t4s w a l).mpr ⟨y, hy, ha⟩)); refine ⟨fun y hy => ⟨key _ (hmem y hy _ (by simp [t4])), key _ (hmem y hy _ (by simp [t4]))⟩, fun y hy => ?_, hlt i (i + 1) (by omega) hi⟩; have a1 := key _ (hmem y hy (y.f0 + w) (by simp [t4])); have a2 := key _ (hmem y hy (y.f1 + w) (by simp [t4])); exact ⟨by omega, by omega⟩
theorem Trn_zero {l : List S108} {w : Int} (hw : 0 ≤ w) {T : List Int} (hT : Trn l w T) (hb : ∀ y ∈ l, ok8 y) : 0 < T.length ∧ T.getD 0 0 = 0 ∧ ∀ a ∈ T, 0 ≤ a ∧ a ≤ 1000000 + w := by
  obtain ⟨h1, h2⟩ := hT; have h0 : (0 : Int) ∈ T := (h2 0).mpr (.inl rfl); have hin : ∀ a ∈ T, 0 ≤ a ∧ a ≤ 1000000 + w := by
    intro a ha
    rcases (h2 a).mp ha with h | h
    · omega
    · obtain ⟨y, hy, ha⟩ := (mem_t4s w a l).mp h; obtain ⟨b1, b2, b3, b4⟩ := hb y hy; simp only [t4, List.mem_cons, List.not_mem_nil, or_false] at ha
      rcases ha with h | h | h | h <;> omega
  cases T with
  | nil => simp at h0
  | cons a r =>
    refine ⟨by simp, ?_, hin⟩; obtain ⟨x1, _⟩ := List.pairwise_cons.mp h1; have := hin a List.mem_cons_self
    show a = 0
    rcases List.mem_cons.mp h0 with e | e
    · exact e.symm
    · have := x1 0 e; omega
theorem en_turn {l : List S108} {w : Int} (hw : 0 ≤ w) {T : List Int} (hT : Trn l w T) (hb : ∀ y ∈ l, ok8 y) (t : Int) (ht : 0 ≤ t) : ∃ a ∈ T, en l w t ≤ en l w a := by
 obtain ⟨h0, h00, hin⟩ := Trn_zero hw hT hb; have key : ∀ n i, i + n + 1 = T.length → T.getD i 0 ≤ t → ∃ a ∈ T, en l w t ≤ en l w a := by
  intro n
  induction n with
  | zero =>
   intro i h hi
   -- behind the last turn
   refine ⟨0, (hT.2 0).mpr (.inl rfl), ?_⟩; rw [en_zero hw hb]; have : en l w t = 0 := by
    refine en_late hw hb (fun y hy => ?_); have hm : y.f1 + w ∈ T := (hT.2 _).mpr (.inr ((mem_t4s w _ l).mpr ⟨y, hy, by simp [t4]⟩)); obtain ⟨q, hq, e⟩ := List.getElem_of_mem hm; have e2 : y.f1 + w = T.getD q 0 := by rw [← e]; simp [List.getD_eq_getElem?_getD, hq]
    by_cases c : q = i
    ·subst c; omega
    ·have := List.pairwise_iff_getElem.mp hT.1 q i hq (by omega) (by omega); have e3 : T.getD i 0 = T[i] := by simp [List.getD_eq_getElem?_getD, show i < T.length by omega]
     have e4 : T.getD q 0 = T[q] := by simp [List.getD_eq_getElem?_getD, hq]
     omega
   omega
  | succ n ih =>
   intro i h hi
   by_cases c : T.getD (i + 1) 0 ≤ t
   ·exact ih (i + 1) (by omega) c
   ·obtain ⟨c1, c2, c3⟩ := Trn_calm hT (i := i) (by omega); obtain ⟨S, hS⟩ := en_line (w := w) hb c1 c2; have e1 := hS t hi (by omega); have e2 := hS (T.getD (i + 1) 0) (by omega) (Int.le_refl _); have m1 : T.getD i 0 ∈ T := by simp [List.getD_eq_getElem?_getD, show i < T.length by omega]
    have m2 : T.getD (i + 1) 0 ∈ T := by simp [List.getD_eq_getElem?_getD, show i + 1 < T.length by omega]
    by_cases hs : S ≤ 0
    ·refine ⟨_, m1, ?_⟩; have : S * (t - T.getD i 0) ≤ 0 := Int.mul_nonpos_of_nonpos_of_nonneg hs (by omega)
     omega
    ·refine ⟨_, m2, ?_⟩; have : S * (t - T.getD i 0) ≤ S * (T.getD (i + 1) 0 - T.getD i 0) := Int.mul_le_mul_of_nonneg_left (by omega) (by omega)
     omega
 exact key (T.length - 1) 0 (by omega) (by omega)
theorem chk_loopE {α : Type} (z : α) (p : α → Int) (g : Nat → α → Option Int) (hg : ∀ x, Ev (fun k => g k x) (p x)) (l : List α) (hl : l.length < 4611686018427387904) (F : Nat → Int → Option (Int × Int))
  (h0 : ∀ k i, ¬ i < (l.length : Int) → F (k + 1) i = some (0, 0))
  (h1 : ∀ k (i : Nat), i < l.length → F (k + 1) (i : Int) = (g k (l.getD i z)).bind fun e => if e = 0 then F k (wrap64 ((i : Int) + 1)) else some ((i : Int), e)) :
  ∀ (n i : Nat), i + n = l.length → Ev (fun k => F k (i : Int)) (chk p (l.drop i) i)
 | 0, i, h => by
  refine Ev.succ ?_; rw [show l.drop i = [] from List.drop_eq_nil_of_le (by omega)]; exact Ev.congr (fun k => (h0 k i (by omega)).symm) Ev.some
 | n + 1, i, h => by
  refine Ev.succ ?_; refine Ev.congr (fun k => (h1 k i (by omega)).symm) ?_; rw [drop_getD z (show i < l.length by omega)]; refine Ev.bind (hg _) ?_; unfold chk
  by_cases e : p (l.getD i z) = 0
  ·simp only [e, if_true, up (show i < 4611686018427387904 by omega)]; exact chk_loopE z p g hg l hl F h0 h1 n (i + 1) (by omega)
  ·simp only [e, if_false]; exact Ev.some
def two (a b : Int) : Int := if a = 0 then b else a
theorem fnz_two (a b : Int) : fnz [a, b] = two a b := by
 unfold two fnz fnz
 split
 ·split <;> rename_i h
  ·rw [h]; rfl
  ·rfl
 ·rfl
theorem isTime_eq (a : Int) : L_isTime.f a = some (decide (0 ≤ a ∧ a ≤ 1000000)) := by
 unfold L_isTime.f; rw [within_eq]; rfl
def qE (y : S108) : Int := if (0 ≤ y.f0 ∧ y.f0 ≤ 1000000) ∧ (0 ≤ y.f1 ∧ y.f1 ≤ 1000000) ∧ (0 ≤ y.f2 ∧ y.f2 ≤ 10000) then (if y.f0 < y.f1 then 0 else 9) else 2
def shE (l : List S108) : Int := if 20 < l.length then 8 else (chk qE l 0).2
def wE (w : Int) : Int := if 1 ≤ w ∧ w ≤ 1000000 then 0 else 2
theorem openShots_1_ev (y : S108) : Ev (fun k => L_openShots_1.f k y.f0 y.f1 y.f2) (qE y) := by
 unfold L_openShots_1.f qE; simp only [isTime_eq, within_eq, Option.bind_some, unless_eq, decide_eq_true_eq]
 by_cases h1 : 0 ≤ y.f0 ∧ y.f0 ≤ 1000000
 ·by_cases h2 : 0 ≤ y.f1 ∧ y.f1 ≤ 1000000
  ·by_cases h3 : 0 ≤ y.f2 ∧ y.f2 ≤ 10000
   ·by_cases h4 : y.f0 < y.f1
    ·simp only [h1, h2, h3, h4, and_self, if_true]; exact Ev.bind (first_ev _ (by simp)) Ev.some
    ·simp only [h1, h2, h3, h4, and_self, if_true, if_false]; exact Ev.bind (first_ev _ (by simp)) Ev.some
   ·simp only [h1, h2, h3, and_self, and_false, if_true, if_false]; exact Ev.bind (first_ev _ (by simp)) Ev.some
  ·simp only [h1, h2, and_self, and_false, false_and, if_true, if_false, Bool.false_eq_true]; exact Ev.bind (first_ev _ (by simp)) Ev.some
 ·simp only [h1, false_and, if_false, Bool.false_eq_true]; exact Ev.bind (first_ev _ (by simp)) Ev.some
theorem openShots_ev (l : List S108) (w : Int) (hl : l.length < 4611686018427387904) : Ev (fun k => L_openShots.f k l w) (if 20 < l.length then ([], 8) else (l, two (shE l) (wE w))) := by
 unfold L_openShots.f
 by_cases h2 : 20 < l.length
 ·simp only [h2, show (l.length : Int) > 20 by omega, if_true]; exact Ev.some
 ·simp only [h2, show ¬ (l.length : Int) > 20 by omega, if_false]; refine Ev.bind (a := chk qE l 0) ?_ ?_
  ·refine chk_loopE z108 qE (fun k y => L_openShots_1.f k y.f0 y.f1 y.f2) openShots_1_ev l hl (fun k i => api_CloudShot_openShots_1.l0 k l (l.length : Int) i) (fun k i h => ?_) (fun k i h => ?_) l.length 0 (by omega)
   ·simp only [api_CloudShot_openShots_1.l0, h, if_false]
   ·simp only [api_CloudShot_openShots_1.l0, show (i : Int) < (l.length : Int) by omega, show (0 : Int) ≤ (i : Int) by omega, if_true, rd108_getD]
  ·simp only [within_eq, unless_eq, Option.bind_some, decide_eq_true_eq]; rw [← fnz_two, show shE l = (chk qE l 0).2 by unfold shE; rw [if_neg h2]]; exact Ev.bind (first_ev _ (by simp)) Ev.some
theorem ShotsErr_ev (l : List S108) (hl : l.length < 4611686018427387904) : Ev (fun k => Rf_ShotsErr.f k l) (shE l) := by
  unfold Rf_ShotsErr.f shE
  by_cases h2 : 20 < l.length
  · simp only [h2, show (l.length : Int) > 20 by omega, if_true]; exact Ev.some
  · simp only [h2, show ¬ (l.length : Int) > 20 by omega, if_false]; have key : ∀ (n i : Nat), i + n = l.length → Ev (fun k => Rf_ShotsErr.l0 k l (i : Int)) (chk qE (l.drop i) i).2 := by
      intro n
      induction n with
      | zero =>
        intro i h; refine Ev.succ ?_; simp only [Rf_ShotsErr.l0, show ¬ (i : Int) < (l.length : Int) by omega, if_false]; rw [show l.drop i = [] from List.drop_eq_nil_of_le (by omega)]; exact Ev.some
      | succ n ih =>
        intro i h; refine Ev.succ ?_; have ih := ih (i + 1) (by omega); rw [rd108_drop (show i < l.length by omega)]; simp only [Rf_ShotsErr.l0, show (i : Int) < (l.length : Int) by omega, show (0 : Int) ≤ (i : Int) by omega, if_true, Within_eq, Option.bind_some, decide_eq_true_eq]; have hj : ∀ b : Bool, Ev (fun k => Rf_ShotsErr.j1 k l (i : Int) b) (if b = true then 2 else if (rd_T108 l (i : Int)).f0 < (rd_T108 l (i : Int)).f1 then (chk qE (l.drop (i + 1)) (i + 1)).2 else 9) := by
          intro b; refine Ev.succ ?_
          cases b with
          | true => simp only [Rf_ShotsErr.j1, if_true]; exact Ev.some
          | false =>
            simp only [Rf_ShotsErr.j1, Bool.false_eq_true, if_false, show (i : Int) < (l.length : Int) by omega, show (0 : Int) ≤ (i : Int) by omega, if_true, up (show i < 4611686018427387904 by omega)]
            by_cases h3 : (rd_T108 l (i : Int)).f0 < (rd_T108 l (i : Int)).f1
            · simp only [h3, show ¬ (rd_T108 l (i : Int)).f0 ≥ (rd_T108 l (i : Int)).f1 by omega, if_true, if_false]; exact ih
            · simp only [h3, show (rd_T108 l (i : Int)).f0 ≥ (rd_T108 l (i : Int)).f1 by omega, if_true, if_false]; exact Ev.some
        generalize rd_T108 l (i : Int) = y at hj ⊢; have ht := hj true; simp only [if_true] at ht; unfold chk qE
        by_cases h5 : 0 ≤ y.f0 ∧ y.f0 ≤ 1000000
        · by_cases h6 : 0 ≤ y.f1 ∧ y.f1 ≤ 1000000
          · by_cases h7 : 0 ≤ y.f2 ∧ y.f2 ≤ 10000
            · have hf := hj false; simp only [h5, h6, h7, and_self, if_true, decide_true, Bool.not_true, Bool.false_eq_true, if_false] at hf ⊢
              by_cases h3 : y.f0 < y.f1
              · rw [if_pos h3] at hf; simp only [h3, if_true]; exact hf
              · rw [if_neg h3] at hf; simp only [h3, if_false, show ¬ (9 : Int) = 0 by omega]; exact hf
            · simp only [h5, h6, h7, and_self, and_false, if_true, if_false, decide_false, Bool.not_false, show ¬ (2 : Int) = 0 by omega]; exact ht
          · simp only [h5, h6, and_self, and_false, false_and, if_true, if_false, show ¬ (2 : Int) = 0 by omega]; exact ht
        · simp only [h5, false_and, if_false, show ¬ (2 : Int) = 0 by omega]; exact ht
    have := key l.length 0 (by omega); exact this
theorem WindowErr_eq (w : Int) : Rf_WindowErr.f w = some (wE w) := by
 unfold Rf_WindowErr.f wE; simp only [Within_eq, Option.bind_some, decide_eq_true_eq]
 split <;> rfl
theorem shE_ok {l : List S108} (h : shE l = 0) : l.length ≤ 20 ∧ ∀ y ∈ l, ok8 y := by
 unfold shE at h
 split at h
 ·omega
 refine ⟨by omega, fun y hy => ?_⟩; have := chk_all h y hy; unfold qE at this
 split at this
 ·rename_i hh
  split at this
  ·exact ⟨hh.1, hh.2.1, hh.2.2, by assumption⟩
  ·omega
 ·omega
theorem two_ok {l : List S108} {w : Int} (h : two (shE l) (wE w) = 0) : (l.length ≤ 20 ∧ ∀ y ∈ l, ok8 y) ∧ 1 ≤ w ∧ w ≤ 1000000 := by
 unfold two at h
 split at h
 ·refine ⟨shE_ok (by assumption), ?_⟩; unfold wE at h; split at h <;> omega
 ·contradiction
def mxl (l : List S108) (w a : Int) : List Int → Int
 | [] => a
 | t :: r => mxl l w (max a (en l w t)) r
theorem mxl_ge (l : List S108) (w : Int) : ∀ (T : List Int) (a : Int), a ≤ mxl l w a T ∧ ∀ t ∈ T, en l w t ≤ mxl l w a T
 | [], a => ⟨Int.le_refl _, by simp⟩
 | t :: r, a => by
  obtain ⟨h1, h2⟩ := mxl_ge l w r (max a (en l w t)); simp only [mxl]; refine ⟨by omega, fun s hs => ?_⟩
  rcases List.mem_cons.mp hs with rfl | hs
  ·omega
  ·exact h2 s hs
theorem mxl_mem (l : List S108) (w : Int) : ∀ (T : List Int) (a : Int), mxl l w a T = a ∨ ∃ t ∈ T, mxl l w a T = en l w t
 | [], a => .inl rfl
 | t :: r, a => by
  simp only [mxl]
  rcases mxl_mem l w r (max a (en l w t)) with h | ⟨s, hs, h⟩
  ·rw [h]
   by_cases c : en l w t ≤ a
   ·exact .inl (by omega)
   ·exact .inr ⟨t, List.mem_cons_self, by omega⟩
  ·exact .inr ⟨s, List.mem_cons_of_mem _ hs, h⟩
theorem Exp_l0 (l : List S108) (w : Int) (hw : 1 ≤ w ∧ w ≤ 1000000) (hb : ∀ y ∈ l, ok8 y) (hl : l.length ≤ 20) (T : List Int) (hT : ∀ a ∈ T, 0 ≤ a ∧ a ≤ 1000000 + w) (hTl : T.length < 1000) : ∀ (n i : Nat) (a : Int), i + n = T.length →
  Ev (fun k => L_ExposureOf.l0 k w l a T (T.length : Int) (i : Int)) (mxl l w a (T.drop i), 0)
 | 0, i, a, h => by
  refine Ev.succ ?_; rw [show T.drop i = [] from List.drop_eq_nil_of_le (by omega)]; simp only [L_ExposureOf.l0, show ¬ (i : Int) < (T.length : Int) by omega, if_false]; exact Ev.some
 | n + 1, i, a, h => by
  refine Ev.succ ?_; have hi : i < T.length := by omega
  have hm : rd T (i : Int) ∈ T := by rw [rd_nat]; simp [List.getD_eq_getElem?_getD, hi]
  have hx := hT _ hm; rw [drop_rd hi]; simp only [L_ExposureOf.l0, show (i : Int) < (T.length : Int) by omega, show (0 : Int) ≤ (i : Int) by omega, if_true, up (show i < 4611686018427387904 by omega), mx_eq]; refine Ev.bind (in_ev l w _ hw (by omega) hb hl) ?_; exact Exp_l0 l w hw hb hl T hT hTl n (i + 1) _ (by omega)
theorem RefExp_l0 (l : List S108) (w : Int) (hw : 1 ≤ w ∧ w ≤ 1000000) (hb : ∀ y ∈ l, ok8 y) (hl : l.length ≤ 20) (T : List Int) (hT : ∀ a ∈ T, 0 ≤ a ∧ a ≤ 1000000 + w) (hTl : T.length < 1000) : ∀ (n i : Nat) (a : Int), i + n = T.length →
  Ev (fun k => Rf_Exposure.l0 k l w a (T.map (fun a => a - 1)) (i : Int)) (mxl l w a (T.drop i))
 | 0, i, a, h => by
  refine Ev.succ ?_; rw [show T.drop i = [] from List.drop_eq_nil_of_le (by omega)]; simp only [Rf_Exposure.l0, List.length_map, show ¬ (i : Int) < (T.length : Int) by omega, if_false]; exact Ev.some
 | n + 1, i, a, h => by
  refine Ev.succ ?_; have hi : i < T.length := by omega
  have hm : rd T (i : Int) ∈ T := by rw [rd_nat]; simp [List.getD_eq_getElem?_getD, hi]
  have hx := hT _ hm; have e : rd (T.map (fun a => a - 1)) (i : Int) = rd T (i : Int) - 1 := by
   rw [rd_nat, rd_nat]; simp [List.getD_eq_getElem?_getD, hi]
  rw [drop_rd hi]; simp only [Rf_Exposure.l0, List.length_map, show (i : Int) < (T.length : Int) by omega, show (0 : Int) ≤ (i : Int) by omega, if_true, up (show i < 4611686018427387904 by omega), mx_eq, e]; have hE := Energy_ev l w (rd T (i : Int) - 1) hw (by omega) hb hl; rw [show rd T (i : Int) - 1 + 1 = rd T (i : Int) by omega] at hE; refine Ev.bind hE ?_; exact RefExp_l0 l w hw hb hl T hT hTl n (i + 1) _ (by omega)
theorem ExposureOf_ok (l : List S108) (w : Int) (h : two (shE l) (wE w) = 0) : ∃ T, (Trn l w T ∧ T.length ≤ 81) ∧ Ev (fun k => L_ExposureOf.f k l w) (mxl l w 0 T, 0) := by
 obtain ⟨⟨hl, hb⟩, hw⟩ := two_ok h; obtain ⟨T, ⟨hT, hTl⟩, hE⟩ := turns_ev l w hw hb hl; refine ⟨T, ⟨hT, hTl⟩, ?_⟩; unfold L_ExposureOf.f; have hO := openShots_ev l w (by omega); rw [if_neg (by omega), h] at hO; refine Ev.bind hO ?_; simp only [if_true]; refine Ev.bind hE ?_; have := Exp_l0 l w hw hb hl T (Trn_zero (by omega) hT hb).2.2 (by omega) T.length 0 0 (by omega); exact this
theorem ExposureOf_bad (l : List S108) (w : Int) (hl : l.length < 4611686018427387904) (h : two (shE l) (wE w) ≠ 0) : Ev (fun k => L_ExposureOf.f k l w) (0, two (shE l) (wE w)) := by
 unfold L_ExposureOf.f; refine Ev.bind (openShots_ev l w hl) ?_
 by_cases h2 : 20 < l.length
 ·have e : two (shE l) (wE w) = 8 := by
   have : shE l = 8 := by unfold shE; rw [if_pos h2]
   rw [this]; rfl
  simp only [h2, if_true, show ¬ (8 : Int) = 0 by omega, if_false, e]; exact Ev.some
 ·simp only [h2, if_false, h]; exact Ev.some
theorem Trn_uniq {l : List S108} {w : Int} {T R : List Int} (h1 : Trn l w T) (h2 : Trn l w R) : T = R :=
 Asc_uniq h1.1 h2.1 (fun a => (h1.2 a).trans (h2.2 a).symm)
theorem Exposure_ev (l : List S108) (w : Int) (hb : ∀ y ∈ l, ok8 y) (hl : l.length ≤ 20) (hw : 1 ≤ w ∧ w ≤ 1000000) (T : List Int) (hT : Trn l w T) (hTl : T.length ≤ 81) : Ev (fun k => Rf_Exposure.f k l w) (mxl l w 0 T) := by
 unfold Rf_Exposure.f; refine Ev.bind (Turns_ev l w hw hb hl T hT) ?_; have := RefExp_l0 l w hw hb hl T (Trn_zero (by omega) hT hb).2.2 (by omega) T.length 0 0 (by omega); exact this
def fi (l : List S108) (w X : Int) (T : List Int) : Nat → Nat → Option Nat
 | 0, _ => none
 | n + 1, i => if en l w (T.getD i 0) ≤ X then fi l w X T n (i + 1) else some i
theorem fi_none {l : List S108} {w X : Int} {T : List Int} : ∀ {n i : Nat}, fi l w X T n i = none → ∀ p, i ≤ p → p < i + n → en l w (T.getD p 0) ≤ X
 | 0, i, _, p, h1, h2 => by omega
 | n + 1, i, h, p, h1, h2 => by
  unfold fi at h
  split at h
  ·rename_i hh
   by_cases c : p = i
   ·subst c; exact hh
   ·exact fi_none h p (by omega) (by omega)
  ·cases h
theorem fi_some {l : List S108} {w X : Int} {T : List Int} {j : Nat} : ∀ {n i : Nat}, fi l w X T n i = some j → i ≤ j ∧ j < i + n ∧ X < en l w (T.getD j 0) ∧ ∀ p, i ≤ p → p < j → en l w (T.getD p 0) ≤ X
 | 0, i, h => by cases h
 | n + 1, i, h => by
  unfold fi at h
  split at h
  ·rename_i hh
   obtain ⟨a1, a2, a3, a4⟩ := fi_some h; refine ⟨by omega, by omega, a3, fun p h1 h2 => ?_⟩
   by_cases c : p = i
   ·subst c; exact hh
   ·exact a4 p (by omega) h2
  ·rename_i hh
   injection h with h
   subst h; exact ⟨Nat.le_refl _, by omega, by omega, fun p h1 h2 => by omega⟩
theorem Bis_l1 (l : List S108) (w X : Int) (hw : 1 ≤ w ∧ w ≤ 1000000) (hb : ∀ y ∈ l, ok8 y) (hl : l.length ≤ 20) : ∀ (m : Nat) (b s : Int), s - b ≤ (m : Int) → 0 ≤ b → b < s → s ≤ 2000000 → en l w b ≤ X → X < en l w s →
    ∃ v : Int, (b < v ∧ v ≤ s ∧ X < en l w v ∧ en l w (v - 1) ≤ X) ∧ Ev (fun k => L_UnsafeAt.l1 k l b s w X) (v - 1, 0) := by
  intro m
  induction m with
  | zero => intro b s h1 h2 h3; omega
  | succ m ih =>
    intro b s h1 h2 h3 h4 h5 h6
    by_cases c : s - b > 1
    · have e : wrap64 (Int.tdiv (wrap64 (b + s)) 2) = (b + s) / 2 := by
        rw [w64 (n := b + s) (by omega), Int.tdiv_eq_ediv_of_nonneg (by omega), w64 (by omega)]
      have hstep : ∀ R, Ev (fun k => if en l w ((b + s) / 2) > X then L_UnsafeAt.l1 k l b ((b + s) / 2) w X else L_UnsafeAt.l1 k l ((b + s) / 2) s w X) R → Ev (fun k => L_UnsafeAt.l1 k l b s w X) R := by
        intro R hR; refine Ev.succ ?_; simp only [L_UnsafeAt.l1]; rw [w64 (n := s - b) (by omega), e]; simp only [c, if_true]; exact Ev.bind (in_ev l w _ hw (by omega) hb hl) hR
      by_cases h7 : en l w ((b + s) / 2) > X
      · obtain ⟨v, ⟨v1, v2, v3, v4⟩, hv⟩ := ih b ((b + s) / 2) (by omega) h2 (by omega) (by omega) h5 h7; refine ⟨v, ⟨v1, by omega, v3, v4⟩, hstep _ ?_⟩; simp only [h7, if_true]; exact hv
      · obtain ⟨v, ⟨v1, v2, v3, v4⟩, hv⟩ := ih ((b + s) / 2) s (by omega) (by omega) (by omega) h4 (by omega) h6; refine ⟨v, ⟨by omega, v2, v3, v4⟩, hstep _ ?_⟩; simp only [h7, if_false]; exact hv
    · refine ⟨s, ⟨h3, Int.le_refl _, h6, by rw [show s - 1 = b by omega]; exact h5⟩, Ev.succ ?_⟩; simp only [L_UnsafeAt.l1]; rw [w64 (n := s - b) (by omega)]; simp only [c, if_false]; rw [w64 (n := s - 1) (by omega)]; exact Ev.some
theorem getD_mem' {T : List Int} {i : Nat} (h : i < T.length) : T.getD i 0 ∈ T := by simp [List.getD_eq_getElem?_getD, h]
theorem UnsafeAt_l0 (l : List S108) (w X : Int) (hw : 1 ≤ w ∧ w ≤ 1000000) (hX : 0 ≤ X) (hb : ∀ y ∈ l, ok8 y) (hl : l.length ≤ 20) (T : List Int) (hT : Trn l w T) (hTl : T.length ≤ 81) : ∀ (n i : Nat), i + 1 + n = T.length → en l w (T.getD i 0) ≤ X →
  ∃ r : Int × Int, (fi l w X T n (i + 1) = none → r = (0, 12)) ∧ (∀ j, fi l w X T n (i + 1) = some j → ∃ v, r = (v - 1, 0) ∧ T.getD (j - 1) 0 < v ∧ v ≤ T.getD j 0 ∧ X < en l w v ∧ en l w (v - 1) ≤ X) ∧ Ev (fun k => L_UnsafeAt.l0 k l (T.getD i 0) T (T.length : Int) ((i + 1 : Nat) : Int) w X) r
 | 0, i, h, hi => by
  refine ⟨(0, 12), fun _ => rfl, fun j hj => (by cases hj), Ev.succ ?_⟩; simp only [L_UnsafeAt.l0, show ¬ ((i + 1 : Nat) : Int) < (T.length : Int) by omega, if_false]; exact Ev.some
 | n + 1, i, h, hi => by
  obtain ⟨z1, z2, z3⟩ := Trn_zero (show 0 ≤ w by omega) hT hb; have hm1 := z3 _ (getD_mem' (show i < T.length by omega)); have hm2 := z3 _ (getD_mem' (show i + 1 < T.length by omega)); obtain ⟨_, _, hlt⟩ := Trn_calm hT (i := i) (by omega); have ihn := UnsafeAt_l0 l w X hw hX hb hl T hT hTl n (i + 1) (by omega); have hstep : ∀ R, Ev (fun k => if en l w (T.getD (i + 1) 0) ≤ X then L_UnsafeAt.l0 k l (T.getD (i + 1) 0) T (T.length : Int) ((i + 2 : Nat) : Int) w X else L_UnsafeAt.l1 k l (T.getD i 0) (T.getD (i + 1) 0) w X) R → Ev (fun k => L_UnsafeAt.l0 k l (T.getD i 0) T (T.length : Int) ((i + 1 : Nat) : Int) w X) R := by
   intro R hR; refine Ev.succ ?_; simp only [L_UnsafeAt.l0, show ((i + 1 : Nat) : Int) < (T.length : Int) by omega, show (0 : Int) ≤ ((i + 1 : Nat) : Int) by omega, if_true, rd_nat, up (show i + 1 < 4611686018427387904 by omega)]; exact Ev.bind (in_ev l w _ hw (by omega) hb hl) hR
  by_cases c : en l w (T.getD (i + 1) 0) ≤ X
  ·obtain ⟨r, r1, r2, r3⟩ := ihn c; have e : fi l w X T (n + 1) (i + 1) = fi l w X T n (i + 1 + 1) := by
    conv => lhs; unfold fi
    rw [if_pos c]
   rw [e]; refine ⟨r, r1, r2, hstep r ?_⟩; simp only [c, if_true]; exact r3
  ·have e : fi l w X T (n + 1) (i + 1) = some (i + 1) := by
    unfold fi; rw [if_neg c]
   rw [e]; obtain ⟨v, ⟨v1, v2, v3, v4⟩, hv⟩ := Bis_l1 l w X hw hb hl 2000000 (T.getD i 0) (T.getD (i + 1) 0) (by omega) hm1.1 hlt (by omega) hi (by omega); refine ⟨(v - 1, 0), fun hn => (by cases hn), fun j hj => ?_, hstep _ ?_⟩
   ·injection hj with hj
    subst hj; exact ⟨v, rfl, v1, v2, v3, v4⟩
   ·simp only [c, if_false]; exact hv
theorem Unsafe_l0 (l : List S108) (w X : Int) (hw : 1 ≤ w ∧ w ≤ 1000000) (hX : 0 ≤ X ∧ X ≤ 1000000000000) (hb : ∀ y ∈ l, ok8 y) (hl : l.length ≤ 20) (T : List Int) (hT : Trn l w T) (hTl : T.length ≤ 81) : ∀ (n i : Nat), i + 1 + n = T.length → en l w (T.getD i 0) ≤ X →
  ∃ r : Int × Bool, (fi l w X T n (i + 1) = none → r = (0, false)) ∧ (∀ j, fi l w X T n (i + 1) = some j → r.2 = true ∧ ∀ v, T.getD (j - 1) 0 < v → v ≤ T.getD j 0 → X < en l w v → en l w (v - 1) ≤ X → r.1 = v - 1) ∧ Ev (fun k => Rf_Unsafe.l0 k l (T.map (fun a => a - 1)) ((i + 1 : Nat) : Int) w X) r
 | 0, i, h, hi => by
  refine ⟨(0, false), fun _ => rfl, fun j hj => (by cases hj), Ev.succ ?_⟩; simp only [Rf_Unsafe.l0, List.length_map, show ¬ ((i + 1 : Nat) : Int) < (T.length : Int) by omega, if_false]; exact Ev.some
 | n + 1, i, h, hi => by
  obtain ⟨z1, z2, z3⟩ := Trn_zero (show 0 ≤ w by omega) hT hb; have hm1 := z3 _ (getD_mem' (show i < T.length by omega)); have hm2 := z3 _ (getD_mem' (show i + 1 < T.length by omega)); obtain ⟨c1, c2, hlt⟩ := Trn_calm hT (i := i) (by omega); have ihn := Unsafe_l0 l w X hw hX hb hl T hT hTl n (i + 1) (by omega); have e0 : ∀ p, p < T.length → rd (T.map (fun a => a - 1)) (p : Int) = T.getD p 0 - 1 := fun p hp => by
   rw [rd_nat]; simp [List.getD_eq_getElem?_getD, hp]
  have hEa := Energy_ev l w (T.getD i 0 - 1) hw (by omega) hb hl; rw [show T.getD i 0 - 1 + 1 = T.getD i 0 by omega] at hEa; have hEb := Energy_ev l w (T.getD (i + 1) 0 - 1) hw (by omega) hb hl; rw [show T.getD (i + 1) 0 - 1 + 1 = T.getD (i + 1) 0 by omega] at hEb; have ba := en_in (l := l) (w := w) (by omega) (T.getD i 0) hb; have bb := en_in (l := l) (w := w) (by omega) (T.getD (i + 1) 0) hb; obtain ⟨S, hS⟩ := en_line (w := w) hb c1 c2; generalize hA : T.getD i 0 = A at *; generalize hB : T.getD (i + 1) 0 = B at *; have hstep : ∀ R, Ev (fun k => if en l w B ≤ X then Rf_Unsafe.l0 k l (T.map (fun a => a - 1)) ((i + 2 : Nat) : Int) w X else (if B - A = 0 then none else (Bs_Floor.f (X - en l w A) (wrap64 (Int.tdiv (en l w B - en l w A) (B - A)))).bind fun t469 => some (wrap64 (wrap64 (A - 1 + t469) + 1), true))) R → Ev (fun k => Rf_Unsafe.l0 k l (T.map (fun a => a - 1)) ((i + 1 : Nat) : Int) w X) R := by
   intro R hR; refine Ev.succ ?_; have e1 : wrap64 (((i + 1 : Nat) : Int) - 1) = (i : Int) := by rw [w64 (by omega)]; omega
   simp only [Rf_Unsafe.l0, List.length_map, show ((i + 1 : Nat) : Int) < (T.length : Int) by omega, show (0 : Int) ≤ ((i + 1 : Nat) : Int) by omega, if_true, e1, show (0 : Int) ≤ (i : Int) by omega, show (i : Int) < (T.length : Int) by omega, e0 i (by omega), e0 (i + 1) (by omega), up (show i + 1 < 4611686018427387904 by omega), hA, hB]; refine Ev.bind hEa ?_; refine Ev.bind hEb ?_; rw [w64 (n := B - 1 - (A - 1)) (by omega), w64 (n := X - en l w A) (by omega), w64 (n := en l w B - en l w A) (by omega), show B - 1 - (A - 1) = B - A by omega]; exact hR
  by_cases c : en l w B ≤ X
  ·obtain ⟨r, r1, r2, r3⟩ := ihn c; have e : fi l w X T (n + 1) (i + 1) = fi l w X T n (i + 1 + 1) := by
    conv => lhs; unfold fi
    rw [hB, if_pos c]
   rw [e]; refine ⟨r, r1, r2, hstep r ?_⟩; simp only [c, if_true]; exact r3
  ·have e : fi l w X T (n + 1) (i + 1) = some (i + 1) := by
    unfold fi; rw [hB, if_neg c]
   rw [e]; have hSB := hS B (by omega) (Int.le_refl _); have hdiff : en l w B - en l w A = S * (B - A) := by omega
   have hSpos : 0 < S := by
    apply Int.lt_of_not_ge; intro hs
    have : S * (B - A) ≤ 0 := Int.mul_nonpos_of_nonpos_of_nonneg hs (by omega)
    omega
   have hSle : S ≤ 200000000000 := by
    have : S * 1 ≤ S * (B - A) := Int.mul_le_mul_of_nonneg_left (by omega) (by omega)
    omega
   have hfl : (X - en l w A) / S ≤ 1000000000000 ∧ 0 ≤ (X - en l w A) / S := by
    constructor
    ·have := Int.ediv_le_self (a := X - en l w A) S (by omega)
     omega
    ·exact Int.ediv_nonneg (by omega) (by omega)
   refine ⟨(A - 1 + (X - en l w A) / S + 1, true), fun hn => (by cases hn), fun j hj => ?_, hstep _ ?_⟩
   ·injection hj with hj
    subst hj; refine ⟨rfl, fun v v1 v2 v3 v4 => ?_⟩; rw [show i + 1 - 1 = i by omega, hA] at v1; rw [hB] at v2; rw [hS v (by omega) (by omega)] at v3; rw [hS (v - 1) (by omega) (by omega)] at v4; have q1 : v - 1 - A ≤ (X - en l w A) / S := (Int.le_ediv_iff_mul_le hSpos).mpr (by rw [Int.mul_comm]; omega); have q2 : (X - en l w A) / S < v - A := (Int.ediv_lt_iff_lt_mul hSpos).mpr (by rw [Int.mul_comm]; omega)
    show A - 1 + (X - en l w A) / S + 1 = v - 1
    omega
   ·have e5 : wrap64 (Int.tdiv (en l w B - en l w A) (B - A)) = S := by
     rw [hdiff, Int.mul_tdiv_cancel S (by omega), w64 (by omega)]
    simp only [c, if_false, show ¬ B - A = 0 by omega, e5]; rw [Floor_eq hSpos (by omega)]; simp only [Option.bind_some]; rw [w64 (n := A - 1 + (X - en l w A) / S) (by omega), w64 (by omega)]; exact Ev.some
def xE (X : Int) : Int := if 0 ≤ X ∧ X ≤ 1000000000000 then 0 else 2
theorem UnsafeAt_start (l : List S108) (w X : Int) (hl : l.length < 4611686018427387904) : (two (shE l) (wE w) ≠ 0 → Ev (fun k => L_UnsafeAt.f k l w X) (0, two (shE l) (wE w))) ∧ (two (shE l) (wE w) = 0 → xE X ≠ 0 → Ev (fun k => L_UnsafeAt.f k l w X) (0, xE X)) := by
 have hO := openShots_ev l w hl; have h8 : 20 < l.length → two (shE l) (wE w) = 8 := by
  intro h2; have : shE l = 8 := by unfold shE; rw [if_pos h2]
  rw [this]; rfl
 have hO2 : ∃ z, Ev (fun k => L_openShots.f k l w) (z, two (shE l) (wE w)) := by
  by_cases h2 : 20 < l.length
  ·rw [if_pos h2] at hO; rw [h8 h2]; exact ⟨_, hO⟩
  ·rw [if_neg h2] at hO; exact ⟨_, hO⟩
 obtain ⟨z, hz⟩ := hO2
 constructor
 ·intro h; unfold L_UnsafeAt.f; refine Ev.bind hz ?_; simp only [within_eq, unless_eq, Option.bind_some, decide_eq_true_eq]; refine Ev.bind (first_ev _ (by simp)) ?_; rw [fnz_two, show two (two (shE l) (wE w)) (if 0 ≤ X ∧ X ≤ 1000000000000 then 0 else 2) = two (shE l) (wE w) by
   generalize two (shE l) (wE w) = d at h; unfold two; rw [if_neg h]]
  simp only [h, if_false]; exact Ev.some
 ·intro h hx; unfold L_UnsafeAt.f; refine Ev.bind hz ?_; simp only [within_eq, unless_eq, Option.bind_some, decide_eq_true_eq]; refine Ev.bind (first_ev _ (by simp)) ?_; rw [fnz_two, h, show two 0 (if 0 ≤ X ∧ X ≤ 1000000000000 then 0 else 2) = xE X from rfl]; simp only [hx, if_false]; exact Ev.some
theorem Both_ok (l : List S108) (w X : Int) (h : two (shE l) (wE w) = 0) (hX : 0 ≤ X ∧ X ≤ 1000000000000) (T : List Int) (hT : Trn l w T) (hTl : T.length ≤ 81) :
    ∃ (p : Int × Int) (r : Int × Bool), (r.2 = decide (mxl l w 0 T > X)) ∧ (r.2 = false → p = (0, 12)) ∧ (r.2 = true → p.2 = 0 ∧ p.1 = r.1 ∧ X < en l w (p.1 + 1) ∧ en l w p.1 ≤ X ∧ 0 ≤ p.1 ∧ p.1 ≤ 2000000) ∧ Ev (fun k => L_UnsafeAt.f k l w X) p ∧ Ev (fun k => Rf_Unsafe.f k l w X) r := by
  obtain ⟨⟨hl, hb⟩, hw⟩ := two_ok h; obtain ⟨z1, z2, z3⟩ := Trn_zero (show 0 ≤ w by omega) hT hb; have h0 : en l w (T.getD 0 0) ≤ X := by rw [z2, en_zero (by omega) hb]; omega
  obtain ⟨p, p1, p2, p3⟩ := UnsafeAt_l0 l w X hw hX.1 hb hl T hT hTl (T.length - 1) 0 (by omega) h0; obtain ⟨r, r1, r2, r3⟩ := Unsafe_l0 l w X hw hX hb hl T hT hTl (T.length - 1) 0 (by omega) h0; obtain ⟨R, ⟨hR, hRl⟩, hRE⟩ := turns_ev l w hw hb hl; have eRT := Trn_uniq hR hT; subst eRT; have hUA : Ev (fun k => L_UnsafeAt.f k l w X) p := by
    unfold L_UnsafeAt.f; have hO := openShots_ev l w (by omega); rw [if_neg (by omega), h] at hO; refine Ev.bind hO ?_; simp only [within_eq, unless_eq, Option.bind_some, decide_eq_true_eq]; refine Ev.bind (first_ev _ (by simp)) ?_; rw [fnz_two, show two 0 (if 0 ≤ X ∧ X ≤ 1000000000000 then 0 else 2) = 0 by unfold two; rw [if_pos rfl, if_pos hX]]; simp only [if_true]; refine Ev.bind hRE ?_; refine Ev.succ ?_; simp only [L_UnsafeAt.l0, show (0 : Int) < (R.length : Int) by omega, show (0 : Int) ≤ 0 by omega, if_true]; have e1 : rd R 0 = R.getD 0 0 := rd_nat R 0; rw [e1]; refine Ev.bind (in_ev l w _ hw (by rw [z2]; omega) hb hl) ?_; rw [show wrap64 ((0 : Int) + 1) = ((0 + 1 : Nat) : Int) by rw [w64 (by omega)]; rfl]; simp only [h0, if_true]; exact p3
  have hUR : Ev (fun k => Rf_Unsafe.f k l w X) r := by
    unfold Rf_Unsafe.f; refine Ev.bind (Turns_ev l w hw hb hl R hT) ?_; exact r3
  refine ⟨p, r, ?_, ?_, ?_, hUA, hUR⟩
  · cases hf : fi l w X R (R.length - 1) (0 + 1) with
    | none =>
      rw [r1 hf]
      symm
      refine decide_eq_false (fun hn => ?_)
      rcases mxl_mem l w R 0 with e | ⟨t, ht, e⟩
      · omega
      · obtain ⟨q, hq, eq⟩ := List.getElem_of_mem ht; have e2 : t = R.getD q 0 := by rw [← eq]; simp [List.getD_eq_getElem?_getD, hq]
        by_cases c : q = 0
        · subst c; rw [e, e2] at hn; omega
        · have := fi_none hf q (by omega) (by omega); rw [e, e2] at hn; omega
    | some j =>
      rw [(r2 j hf).1]
      symm
      obtain ⟨a1, a2, a3, _⟩ := fi_some hf; refine decide_eq_true ?_; have := (mxl_ge l w R 0).2 _ (getD_mem' (show j < R.length by omega))
      omega
  · intro hr
    cases hf : fi l w X R (R.length - 1) (0 + 1) with
    | none => exact p1 hf
    | some j => rw [(r2 j hf).1] at hr; cases hr
  · intro hr
    cases hf : fi l w X R (R.length - 1) (0 + 1) with
    | none => rw [r1 hf] at hr; cases hr
    | some j =>
      obtain ⟨v, v0, v1, v2, v3, v4⟩ := p2 j hf; obtain ⟨a1, a2, _, _⟩ := fi_some hf; have b1 := z3 _ (getD_mem' (show j < R.length by omega)); have b2 := z3 _ (getD_mem' (show j - 1 < R.length by omega)); rw [v0]; refine ⟨rfl, ((r2 j hf).2 v v1 v2 v3 v4).symm, ?_, v4, ?_, ?_⟩
      · show X < en l w (v - 1 + 1)
        rw [show v - 1 + 1 = v by omega]; exact v3
      · show 0 ≤ v - 1
        omega
      · show v - 1 ≤ 2000000
        omega
theorem CopyShots_eq (l : List S108) (h : l.length < 20000000) : Rf_CopyShots.f l = some l := by
 unfold Rf_CopyShots.f; simp only [Option.bind_some, List.length_nil, List.nil_append]; rw [if_pos (by omega)]
theorem CloudEyes_ev (l : List S108) (w X : Int) : Ev (fun k => Lw_CloudEyes.f k l w X) true := by
 unfold Lw_CloudEyes.f; refine Ev.bind awake_ev ?_; simp only [if_true]
 by_cases hl : (l.length : Int) > 22
 ·simp only [hl, if_true]; exact Ev.some
 simp only [hl, if_false, CopyShots_eq l (by omega), Option.bind_some]
 by_cases h : two (shE l) (wE w) = 0
 ·obtain ⟨⟨hl20, hb⟩, hw⟩ := two_ok h; obtain ⟨T, ⟨hT, hTl⟩, hE⟩ := ExposureOf_ok l w h; refine Ev.bind hE ?_; have hd : ∀ r : Int × Int, Ev (fun k => L_UnsafeAt.f k l w X) r → (Ev (fun k => Lw_CloudEyes.j0 k l (mxl l w 0 T) r.1 r.2 false w X) true) → Ev (fun k => (L_UnsafeAt.f k l w X).bind fun bt480 => ((Rf_ShotsErr.f k l).bind fun t482 => ((Rf_WindowErr.f w).bind fun t483 => ((Lw_both.f t482 t483).bind fun t484 => (if t484 = 0 then ((Rf_Exposure.f k l w).bind fun t485 => (Lw_CloudEyes.j0 k l (mxl l w 0 T) bt480.1 bt480.2 (mxl l w 0 T != t485) w X)) else (if (0 : Int) = t484 then (if mxl l w 0 T = 0 then (if bt480.2 = t484 then (some (bt480.1 == 0)) else (some false)) else (some false)) else (some false))))))) true := by
   intro r h1 h2; refine Ev.bind h1 ?_; refine Ev.bind (ShotsErr_ev l (by omega)) ?_; simp only [WindowErr_eq, both_eq, Option.bind_some]; rw [show (if shE l = 0 then wE w else shE l) = two (shE l) (wE w) from rfl, h]; simp only [if_true]; refine Ev.bind (Exposure_ev l w hb hl20 hw T hT hTl) ?_; rw [bne_self_eq_false]; exact h2
  simp only [if_true]
  by_cases hX : 0 ≤ X ∧ X ≤ 1000000000000
  ·obtain ⟨p, r, q1, q2, q3, q4, q5⟩ := Both_ok l w X h hX T hT hTl; refine hd p q4 ?_; refine Ev.succ ?_; simp only [Lw_CloudEyes.j0, Bool.false_eq_true, if_false, Within_eq, Option.bind_some, decide_eq_true_eq, hX, and_self, if_true, CopyShots_eq l (by omega)]; have ew : wrap64 (Int.tdiv (wrap64 (w + 1)) 2) = (w + 1) / 2 := by
    rw [w64 (n := w + 1) (by omega), Int.tdiv_eq_ediv_of_nonneg (by omega), w64 (by omega)]
   rw [ew]; have hs : shE l = 0 := by unfold two at h; split at h <;> first | assumption | contradiction
   have h2 : two (shE l) (wE ((w + 1) / 2)) = 0 := by
    unfold two wE; rw [if_pos hs, if_pos (by omega)]
   obtain ⟨R, ⟨hR, hRl⟩, hRE⟩ := ExposureOf_ok l ((w + 1) / 2) h2; refine Ev.bind hRE ?_; have hle : mxl l ((w + 1) / 2) 0 R ≤ mxl l w 0 T := by
    rcases mxl_mem l ((w + 1) / 2) R 0 with e | ⟨t, ht, e⟩
    ·rw [e]; exact (mxl_ge l w T 0).1
    ·rw [e]; have a0 := ((Trn_zero (show 0 ≤ (w + 1) / 2 by omega) hR hb).2.2 t ht).1; have a1 := en_mono (l := l) (v := (w + 1) / 2) (w := w) (by omega) (by omega) t hb; obtain ⟨a, ha, a2⟩ := en_turn (show 0 ≤ w by omega) hT hb t a0; have a3 := (mxl_ge l w T 0).2 a ha
     omega
   simp only [if_true, show ¬ mxl l ((w + 1) / 2) 0 R > mxl l w 0 T by omega, decide_false]; refine Ev.succ ?_; simp only [Lw_CloudEyes.j1, Bool.false_eq_true, if_false]; refine Ev.bind q5 ?_; rw [q1, bne_self_eq_false]; simp only [Bool.false_eq_true, if_false]; rw [q1] at q2 q3
   by_cases hgt : mxl l w 0 T > X
   ·obtain ⟨u1, u2, u3, u4, u5, u6⟩ := q3 (decide_eq_true hgt); simp only [hgt, decide_true, if_true, u1, u2]; rw [u2] at u3 u4 u5 u6; refine Ev.bind (Energy_ev l w r.1 hw (by omega) hb hl20) ?_; rw [w64 (n := r.1 - 1) (by omega)]; simp only [show en l w (r.1 + 1) > X from u3, if_true]; have hE2 := Energy_ev l w (r.1 - 1) hw (by omega) hb hl20; rw [show r.1 - 1 + 1 = r.1 by omega] at hE2; refine Ev.bind hE2 ?_; rw [decide_eq_true u4]; exact Ev.some
   ·have := q2 (decide_eq_false hgt); rw [this]; simp only [hgt, decide_false, Bool.false_eq_true, if_false, if_true, beq_self_eq_true]; exact Ev.some
  ·have hx : xE X = 2 := by unfold xE; rw [if_neg hX]
   have := (UnsafeAt_start l w X (by omega)).2 h (by rw [hx]; omega); rw [hx] at this; refine hd _ this ?_; refine Ev.succ ?_; simp only [Lw_CloudEyes.j0, Bool.false_eq_true, if_false, Within_eq, Option.bind_some, decide_eq_true_eq, hX, if_true, beq_self_eq_true]; exact Ev.some
 ·refine Ev.bind (ExposureOf_bad l w (by omega) h) ?_; refine Ev.bind ((UnsafeAt_start l w X (by omega)).1 h) ?_; refine Ev.bind (ShotsErr_ev l (by omega)) ?_; simp only [WindowErr_eq, both_eq, Option.bind_some]; rw [show (if shE l = 0 then wE w else shE l) = two (shE l) (wE w) from rfl]; simp only [h, if_false, if_true, beq_self_eq_true]; exact Ev.some
theorem CloudEyes_pure (l : List S108) (_ : l.length ≤ maxLen ∧ ∀ x ∈ l, (Lit.int .i64 x.f0).wf = true ∧ (Lit.int .i64 x.f1).wf = true ∧ (Lit.int .i64 x.f2).wf = true) (w : Int) (_ : (Lit.int .i64 w).wf = true) (X : Int) (_ : (Lit.int .i64 X).wf = true) : ∃ k, Lw_CloudEyes.f k l w X = some true := (CloudEyes_ev l w X).ex
end Go.Proofs.Yteiafijbgjgiaaa.P
