/-
PLAIN LAW: what the walks compute answers as the statement says (no program in sight; Ev: from some number of rounds on).
-/
import Derived.Test.YteiafijbgjgiaaaC03
namespace Go.Proofs.Yteiafijbgjgiaaa.P
open Go Go.RowKit Go.Proofs.Yteiafijbgjgiaaa.A Go.Proofs.YteiafijbgjgiaaaW.PrintWords Go.Proofs.YteiafijbgjgiaaaW.PrintLast Go.Proofs.YteiafijbgjgiaaaW.PrintMore
set_option linter.unusedSimpArgs false
set_option linter.unusedVariables false
def Ev {α : Type} (f : Nat → Option α) (r : α) : Prop := ∃ k, ∀ j, k ≤ j → f j = some r

theorem Ev.some {α : Type} {r : α} : Ev (fun _ => Option.some r) r := ⟨0, fun _ _ => rfl⟩
theorem Ev.bind {α β : Type} {f : Nat → Option α} {g : Nat → α → Option β} {a : α} {b : β} (h : Ev f a) (h2 : Ev (fun k => g k a) b) : Ev (fun k => (f k).bind (g k)) b := by
 obtain ⟨k, hk⟩ := h; obtain ⟨m, hm⟩ := h2; exact ⟨max k m, fun j hj => by show (f j).bind (g j) = _; rw [hk j (by omega)]; exact hm j (by omega)⟩
theorem Ev.succ {α : Type} {f : Nat → Option α} {r : α} (h : Ev (fun k => f (k + 1)) r) : Ev f r := by
 obtain ⟨k, hk⟩ := h; exact ⟨k + 1, fun j hj => by obtain ⟨m, rfl⟩ : ∃ m, j = m + 1 := ⟨j - 1, by omega⟩; exact hk m (by omega)⟩
theorem Ev.congr {α : Type} {f g : Nat → Option α} {r : α} (e : ∀ k, f k = g k) (h : Ev f r) : Ev g r := by
 obtain ⟨k, hk⟩ := h; exact ⟨k, fun j hj => by rw [← e j]; exact hk j hj⟩
theorem Ev.ex {α : Type} {f : Nat → Option α} {r : α} (h : Ev f r) : ∃ k, f k = Option.some r := let ⟨k, hk⟩ := h; ⟨k, hk k (Nat.le_refl _)⟩
theorem Ev.of_mono {α : Type} {f : Nat → Option α} {r : α} (hm : ∀ k, LeO (f k) (f (k + 1))) {k : Nat} (h : f k = Option.some r) : Ev f r := by
  refine ⟨k, fun j hj => ?_⟩
  induction j with
  | zero => obtain rfl : k = 0 := by omega
            exact h
  | succ j ih =>
    by_cases e : k = j + 1
    · subst e; exact h
    · exact hm j r (ih (by omega))
theorem up {i : Nat} (h : i < 4611686018427387904) : wrap64 ((i : Int) + 1) = ((i + 1 : Nat) : Int) := by
 unfold wrap64; omega
theorem w64 {n : Int} (h : -9223372036854775808 ≤ n ∧ n ≤ 9223372036854775807) : wrap64 n = n := by unfold wrap64; omega
theorem rd_nat (l : List Int) (i : Nat) : rd l (i : Int) = l.getD i 0 := by unfold rd; simp
theorem drop_rd {l : List Int} {i : Nat} (h : i < l.length) : l.drop i = rd l (i : Int) :: l.drop (i + 1) := by
 rw [rd_nat, List.drop_eq_getElem_cons h]
 simp [List.getD_eq_getElem?_getD, h]
theorem drop_getD {α : Type} {l : List α} {i : Nat} (z : α) (h : i < l.length) : l.drop i = l.getD i z :: l.drop (i + 1) := by
 rw [List.drop_eq_getElem_cons h]
 simp [List.getD_eq_getElem?_getD, h]

theorem within_eq (a b c : Int) : L_within.f a b c = some (decide (b ≤ a ∧ a ≤ c)) := by
 unfold L_within.f
 by_cases h : b ≤ a <;> simp [h]
theorem Within_eq (a b c : Int) : Bs_Within.f a b c = some (decide (b ≤ a ∧ a ≤ c)) := by
 unfold Bs_Within.f
 by_cases h : b ≤ a <;> simp [h]
theorem unless_eq (b : Bool) (e : Int) : L_unless.f b e = some (if b = true then 0 else e) := by
 unfold L_unless.f
 cases b <;> simp
def fnz : List Int → Int
 | [] => 0
 | x :: r => if x = 0 then fnz r else x

theorem first_l0 (l : List Int) (hl : l.length < 4611686018427387904) : ∀ (n i : Nat), i + n = l.length → Ev (fun k => L_first.l0 k l (l.length : Int) (i : Int)) (fnz (l.drop i))
 | 0, i, h => by
  refine Ev.succ (f := fun k => L_first.l0 k l (l.length : Int) (i : Int)) ?_; have h1 : ¬ (i : Int) < (l.length : Int) := by omega
  simp only [L_first.l0, h1, if_false]; rw [show l.drop i = [] from List.drop_eq_nil_of_le (by omega)]; exact Ev.some
 | n + 1, i, h => by
  refine Ev.succ (f := fun k => L_first.l0 k l (l.length : Int) (i : Int)) ?_; have h1 : (i : Int) < (l.length : Int) := by omega
  have h2 : (0 : Int) ≤ (i : Int) := by omega
  simp only [L_first.l0, h1, h2, if_true, up (show i < 4611686018427387904 by omega)]; rw [drop_rd (show i < l.length by omega)]; unfold fnz
  by_cases e : rd l (i : Int) = 0
  ·simp only [e, if_true]; exact first_l0 l hl n (i + 1) (by omega)
  ·simp only [e, if_false]; exact Ev.some
theorem first_ev (l : List Int) (hl : l.length < 4611686018427387904) : Ev (fun k => L_first.f k l) (fnz l) := first_l0 l hl l.length 0 (by omega)

theorem both_eq (a b : Int) : Lw_both.f a b = some (if a = 0 then b else a) := by
 unfold Lw_both.f; split <;> rfl
def chk {α : Type} (p : α → Int) : List α → Nat → Int × Int
 | [], _ => (0, 0)
 | x :: r, i => if p x = 0 then chk p r (i + 1) else ((i : Int), p x)
theorem isSignal_eq (a : Int) : L_isSignal.f a = some (decide (0 ≤ a ∧ a ≤ 10000)) := by
 unfold L_isSignal.f; rw [within_eq]; rfl
theorem awake_ev : Ev (fun k => Lw_awake.f k) true :=
 Ev.of_mono (k := 1500) (fun k => Lw_awake.mono k) (by kernel_rfl)
theorem chk_loopE {α : Type} (z : α) (p : α → Int) (g : Nat → α → Option Int) (hg : ∀ x, Ev (fun k => g k x) (p x)) (l : List α) (hl : l.length < 4611686018427387904) (F : Nat → Int → Option (Int × Int))
  (h0 : ∀ k i, ¬ i < (l.length : Int) → F (k + 1) i = some (0, 0))
  (h1 : ∀ k (i : Nat), i < l.length → F (k + 1) (i : Int) = (g k (l.getD i z)).bind fun e => if e = 0 then F k (wrap64 ((i : Int) + 1)) else some ((i : Int), e)) :
  ∀ (n i : Nat), i + n = l.length → Ev (fun k => F k (i : Int)) (chk p (l.drop i) i)
 | 0, i, h => by
  refine Ev.succ ?_; rw [show l.drop i = [] from List.drop_eq_nil_of_le (by omega)]; exact Ev.congr (fun k => (h0 k i (by omega)).symm) Ev.some
 | n + 1, i, h => by
  refine Ev.succ ?_; refine Ev.congr (fun k => (h1 k i (by omega)).symm) ?_; rw [drop_getD z (show i < l.length by omega)]; refine Ev.bind (hg _) ?_; unfold chk
  by_cases e : p (l.getD i z) = 0
  ·simp only [e, if_true, up (show i < 4611686018427387904 by omega)]; exact chk_loopE z p g hg l hl F h0 h1 n (i + 1) (by omega)
  ·simp only [e, if_false]; exact Ev.some
theorem rd143_drop {l : List S143} {i : Nat} (h : i < l.length) : l.drop i = rd_T143 l (i : Int) :: l.drop (i + 1) := by
 unfold rd_T143; exact drop_getD z143 h
theorem rd143_getD (l : List S143) (i : Nat) : rd_T143 l (i : Int) = l.getD i z143 := by unfold rd_T143; simp
def kE (c : S143) : Int := if ((0 ≤ c.f0.f0 ∧ c.f0.f0 ≤ 10000) ∧ (0 ≤ c.f0.f1 ∧ c.f0.f1 ≤ 10000)) ∧ ((0 ≤ c.f1.f0 ∧ c.f1.f0 ≤ 1000) ∧ (0 ≤ c.f1.f1 ∧ c.f1.f1 ≤ 1000)) then (if c.f0.f0 ≤ c.f0.f1 ∧ c.f1.f0 ≤ c.f1.f1 then 0 else 9) else 2
def clE (l : List S143) : Int × Int := if l.length = 0 then (0, 10) else if 10 < l.length then (0, 8) else chk kE l 0
theorem inside_eq (a b m : Int) : L_inside.f a b m = some (decide ((0 ≤ a ∧ a ≤ m) ∧ (0 ≤ b ∧ b ≤ m))) := by
 unfold L_inside.f; simp only [within_eq, Option.bind_some, decide_eq_true_eq]
 by_cases h : 0 ≤ a ∧ a ≤ m <;> simp [h]
theorem CheckClasses_1_ev (c : S143) : Ev (fun k => L_CheckClasses_1.f k c.f0.f0 c.f0.f1 c.f1.f0 c.f1.f1) (kE c) := by
 unfold L_CheckClasses_1.f kE; simp only [inside_eq, Option.bind_some, unless_eq, decide_eq_true_eq]
 by_cases h1 : (0 ≤ c.f0.f0 ∧ c.f0.f0 ≤ 10000) ∧ (0 ≤ c.f0.f1 ∧ c.f0.f1 ≤ 10000)
 ·by_cases h2 : (0 ≤ c.f1.f0 ∧ c.f1.f0 ≤ 1000) ∧ (0 ≤ c.f1.f1 ∧ c.f1.f1 ≤ 1000)
  ·by_cases h3 : c.f0.f0 ≤ c.f0.f1
   ·by_cases h4 : c.f1.f0 ≤ c.f1.f1
    ·simp only [h1, h2, h3, h4, and_self, if_true]; exact Ev.bind (first_ev _ (by simp)) Ev.some
    ·simp only [h1, h2, h3, h4, and_self, and_false, if_true, if_false]; exact Ev.bind (first_ev _ (by simp)) Ev.some
   ·simp only [h1, h2, h3, and_self, false_and, if_true, if_false, Bool.false_eq_true]; exact Ev.bind (first_ev _ (by simp)) Ev.some
  ·by_cases h3 : c.f0.f0 ≤ c.f0.f1
   ·simp only [h1, h2, h3, and_false, if_true, if_false]; exact Ev.bind (first_ev _ (by simp)) Ev.some
   ·simp only [h1, h2, h3, and_false, if_true, if_false, Bool.false_eq_true]; exact Ev.bind (first_ev _ (by simp)) Ev.some
 ·by_cases h3 : c.f0.f0 ≤ c.f0.f1
  ·simp only [h1, h3, false_and, if_true, if_false, Bool.false_eq_true]; exact Ev.bind (first_ev _ (by simp)) Ev.some
  ·simp only [h1, h3, false_and, if_true, if_false, Bool.false_eq_true]; exact Ev.bind (first_ev _ (by simp)) Ev.some
theorem CheckClasses_ev (l : List S143) (hl : l.length < 4611686018427387904) : Ev (fun k => L_CheckClasses.f k l) (clE l) := by
 unfold L_CheckClasses.f; simp only [unless_eq, Option.bind_some]; refine Ev.bind (first_ev _ (by simp)) ?_; unfold clE
 by_cases h1 : l.length = 0
 ·simp only [h1, show ¬ ((0 : Nat) : Int) > 0 by omega, decide_false, fnz]; exact Ev.some
 ·by_cases h2 : 10 < l.length
  ·simp only [h1, h2, show (l.length : Int) > 0 by omega, show ¬ (l.length : Int) ≤ 10 by omega, decide_false, decide_true, fnz, if_true, if_false]; exact Ev.some
  ·simp only [h1, h2, show (l.length : Int) > 0 by omega, show (l.length : Int) ≤ 10 by omega, decide_true, fnz, if_true, if_false]; refine Ev.bind (a := chk kE l 0) ?_ Ev.some; refine chk_loopE z143 kE (fun k c => L_CheckClasses_1.f k c.f0.f0 c.f0.f1 c.f1.f0 c.f1.f1) CheckClasses_1_ev l hl (fun k i => api_CloudClass_CheckClasses_1.l0 k l (l.length : Int) i) (fun k i h => ?_) (fun k i h => ?_) l.length 0 (by omega)
   ·simp only [api_CloudClass_CheckClasses_1.l0, h, if_false]
   ·simp only [api_CloudClass_CheckClasses_1.l0, show (i : Int) < (l.length : Int) by omega, show (0 : Int) ≤ (i : Int) by omega, if_true, rd143_getD]
theorem RefCheckClasses_ev (l : List S143) (hl : l.length < 4611686018427387904) : Ev (fun k => Rf_CheckClasses.f k l) (clE l) := by
  unfold Rf_CheckClasses.f clE
  by_cases h1 : l.length = 0
  · simp only [h1]; exact Ev.some
  · by_cases h2 : 10 < l.length
    · simp only [h1, h2, show ¬ (l.length : Int) = 0 by omega, show (l.length : Int) > 10 by omega, if_true, if_false]; exact Ev.some
    · simp only [h1, h2, show ¬ (l.length : Int) = 0 by omega, show ¬ (l.length : Int) > 10 by omega, if_false]; have key : ∀ (n i : Nat), i + n = l.length → Ev (fun k => Rf_CheckClasses.l0 k l (i : Int)) (chk kE (l.drop i) i) := by
        intro n
        induction n with
        | zero =>
          intro i h; refine Ev.succ ?_; simp only [Rf_CheckClasses.l0, show ¬ (i : Int) < (l.length : Int) by omega, if_false]; rw [show l.drop i = [] from List.drop_eq_nil_of_le (by omega)]; exact Ev.some
        | succ n ih =>
          intro i h; refine Ev.succ ?_; have ih := ih (i + 1) (by omega); rw [rd143_drop (show i < l.length by omega)]; simp only [Rf_CheckClasses.l0, show (i : Int) < (l.length : Int) by omega, show (0 : Int) ≤ (i : Int) by omega, if_true, Within_eq, Option.bind_some, decide_eq_true_eq]; generalize rd_T143 l (i : Int) = c; have hj : ∀ b : Bool, Ev (fun k => Rf_CheckClasses.j1 k l (i : Int) b c.f0.f0 c.f0.f1 c.f1.f0 c.f1.f1) (if b = true then ((i : Int), 2) else if c.f0.f0 ≤ c.f0.f1 ∧ c.f1.f0 ≤ c.f1.f1 then chk kE (l.drop (i + 1)) (i + 1) else ((i : Int), 9)) := by
            intro b; refine Ev.succ ?_
            cases b with
            | true => simp only [Rf_CheckClasses.j1, if_true]; exact Ev.some
            | false =>
              simp only [Rf_CheckClasses.j1, Bool.false_eq_true, if_false, up (show i < 4611686018427387904 by omega)]
              by_cases h3 : c.f0.f0 ≤ c.f0.f1
              · by_cases h4 : c.f1.f0 ≤ c.f1.f1
                · simp only [h3, h4, show ¬ c.f0.f0 > c.f0.f1 by omega, show ¬ c.f1.f0 > c.f1.f1 by omega, and_self, if_true, if_false]; exact ih
                · simp only [h3, h4, show ¬ c.f0.f0 > c.f0.f1 by omega, show c.f1.f0 > c.f1.f1 by omega, and_false, if_true, if_false]; exact Ev.some
              · simp only [h3, show c.f0.f0 > c.f0.f1 by omega, false_and, if_true, if_false]; exact Ev.some
          have ht := hj true; simp only [if_true] at ht; unfold chk kE
          by_cases h5 : 0 ≤ c.f0.f0 ∧ c.f0.f0 ≤ 10000
          · by_cases h6 : 0 ≤ c.f0.f1 ∧ c.f0.f1 ≤ 10000
            · by_cases h7 : 0 ≤ c.f1.f0 ∧ c.f1.f0 ≤ 1000
              · by_cases h8 : 0 ≤ c.f1.f1 ∧ c.f1.f1 ≤ 1000
                · have hf := hj false; simp only [h5, h6, h7, h8, and_self, if_true, decide_true, Bool.not_true, Bool.false_eq_true, if_false] at hf ⊢
                  by_cases h3 : c.f0.f0 ≤ c.f0.f1 ∧ c.f1.f0 ≤ c.f1.f1
                  · rw [if_pos h3] at hf; simp only [h3, and_self, if_true]; exact hf
                  · rw [if_neg h3] at hf; simp only [h3, if_false, show ¬ (9 : Int) = 0 by omega]; exact hf
                · simp only [h5, h6, h7, h8, and_self, and_false, if_true, if_false, decide_false, Bool.not_false, show ¬ (2 : Int) = 0 by omega]; exact ht
              · simp only [h5, h6, h7, and_self, and_false, false_and, if_true, if_false, show ¬ (2 : Int) = 0 by omega]; exact ht
            · simp only [h5, h6, and_self, and_false, false_and, if_true, if_false, show ¬ (2 : Int) = 0 by omega]; exact ht
          · simp only [h5, false_and, if_false, show ¬ (2 : Int) = 0 by omega]; exact ht
      exact key l.length 0 (by omega)
def gE (s p : Int) : Int := if (0 ≤ s ∧ s ≤ 10000) ∧ (0 ≤ p ∧ p ≤ 1000) then 0 else 2
theorem SignalErr_eq (s p : Int) : Rf_SignalErr.f s p = some (gE s p) := by
 unfold Rf_SignalErr.f gE; simp only [Within_eq, Option.bind_some, decide_eq_true_eq]
 by_cases h1 : 0 ≤ s ∧ s ≤ 10000
 ·by_cases h2 : 0 ≤ p ∧ p ≤ 1000 <;> simp [h1, h2]
 ·simp [h1]
def two (a b : Int) : Int := if a = 0 then b else a
theorem fnz_two (a b : Int) : fnz [a, b] = two a b := by
 unfold two fnz fnz
 split
 ·split <;> rename_i h
  ·rw [h]; rfl
  ·rfl
 ·rfl
theorem openClass_ev (l : List S143) (s p : Int) (hl : l.length < 4611686018427387904) : Ev (fun k => L_openClass.f k l s p) (two (clE l).2 (gE s p)) := by
 unfold L_openClass.f; refine Ev.bind (CheckClasses_ev l hl) ?_; simp only [isSignal_eq, within_eq, unless_eq, Option.bind_some, decide_eq_true_eq]; unfold gE
 by_cases h1 : 0 ≤ s ∧ s ≤ 10000
 ·simp only [h1, and_self, if_true, true_and]; rw [← fnz_two]; exact Ev.bind (first_ev _ (by simp)) Ev.some
 ·simp only [h1, false_and, if_false, Bool.false_eq_true]; rw [← fnz_two]; exact Ev.bind (first_ev _ (by simp)) Ev.some
def inC (c : S143) (s p : Int) : Prop := (c.f0.f0 ≤ s ∧ s ≤ c.f0.f1) ∧ (c.f1.f0 ≤ p ∧ p ≤ c.f1.f1)
instance (c : S143) (s p : Int) : Decidable (inC c s p) := inferInstanceAs (Decidable ((c.f0.f0 ≤ s ∧ s ≤ c.f0.f1) ∧ (c.f1.f0 ≤ p ∧ p ≤ c.f1.f1)))
def cls : List S143 → Nat → Int → Int → Int
 | [], _, _, _ => -1
 | c :: r, i, s, p => if inC c s p then (i : Int) else cls r (i + 1) s p
theorem classOf_1_eq (c : S143) (s p : Int) : L_classOf_1.f c.f0.f0 c.f0.f1 c.f1.f0 c.f1.f1 s p = some (decide (inC c s p), s, p) := by
 unfold L_classOf_1.f inC; simp only [within_eq, Option.bind_some, decide_eq_true_eq]
 by_cases h : c.f0.f0 ≤ s ∧ s ≤ c.f0.f1 <;> simp [h]
theorem classOf_l0 (l : List S143) (s p : Int) (hl : l.length < 4611686018427387904) : ∀ (n i : Nat), i + n = l.length → Ev (fun k => api_CloudClass_classOf_1.l0 k l (l.length : Int) (i : Int) s p) (cls (l.drop i) i s p, s, p)
 | 0, i, h => by
  refine Ev.succ ?_; simp only [api_CloudClass_classOf_1.l0, show ¬ (i : Int) < (l.length : Int) by omega, if_false]; rw [show l.drop i = [] from List.drop_eq_nil_of_le (by omega)]; exact Ev.some
 | n + 1, i, h => by
  refine Ev.succ ?_; rw [rd143_drop (show i < l.length by omega)]; simp only [api_CloudClass_classOf_1.l0, show (i : Int) < (l.length : Int) by omega, show (0 : Int) ≤ (i : Int) by omega, if_true, classOf_1_eq, Option.bind_some, decide_eq_true_eq, up (show i < 4611686018427387904 by omega)]; unfold cls
  by_cases e : inC (rd_T143 l (i : Int)) s p
  ·simp only [e, if_true]; exact Ev.some
  ·simp only [e, if_false]; exact classOf_l0 l s p hl n (i + 1) (by omega)
theorem classOf_ev (l : List S143) (s p : Int) (hl : l.length < 4611686018427387904) : Ev (fun k => L_classOf.f k l s p) (cls l 0 s p) := by
 unfold L_classOf.f; refine Ev.bind (classOf_l0 l s p hl l.length 0 (by omega)) ?_; exact Ev.some
theorem Class_l0 (l : List S143) (s p : Int) (hl : l.length < 4611686018427387904) : ∀ (n i : Nat), i + n = l.length → Ev (fun k => Rf_Class.l0 k l (i : Int) s p) (cls (l.drop i) i s p)
 | 0, i, h => by
  refine Ev.succ ?_; simp only [Rf_Class.l0, show ¬ (i : Int) < (l.length : Int) by omega, if_false]; rw [show l.drop i = [] from List.drop_eq_nil_of_le (by omega)]; exact Ev.some
 | n + 1, i, h => by
  refine Ev.succ ?_; have ih := Class_l0 l s p hl n (i + 1) (by omega); rw [rd143_drop (show i < l.length by omega)]; simp only [Rf_Class.l0, show (i : Int) < (l.length : Int) by omega, show (0 : Int) ≤ (i : Int) by omega, if_true, Within_eq, Option.bind_some, decide_eq_true_eq, up (show i < 4611686018427387904 by omega)]; unfold cls inC; generalize rd_T143 l (i : Int) = c
  by_cases h1 : c.f0.f0 ≤ s ∧ s ≤ c.f0.f1
  ·by_cases h2 : c.f1.f0 ≤ p ∧ p ≤ c.f1.f1
   ·simp only [h1, h2, and_self, if_true]; exact Ev.some
   ·simp only [h1, h2, and_self, and_false, if_true, if_false]; exact ih
  ·simp only [h1, false_and, if_false]; exact ih
theorem Class_ev (l : List S143) (s p : Int) (hl : l.length < 4611686018427387904) : Ev (fun k => Rf_Class.f k l s p) (cls l 0 s p) := by
 have := Class_l0 l s p hl l.length 0 (by omega); exact this
def rowOK (l : List S143) (own s : Int) : Nat → Int → Bool
 | 0, _ => true
 | n + 1, p => if cls l 0 s p = own then rowOK l own s n (p + 1) else false
def sqOK (l : List S143) (own p : Int) (n : Nat) : Nat → Int → Bool
 | 0, _ => true
 | m + 1, s => if rowOK l own s n p = true then sqOK l own p n m (s + 1) else false
theorem rowOK_iff (l : List S143) (own s : Int) : ∀ (n : Nat) (p : Int), rowOK l own s n p = true ↔ ∀ b : Int, 0 ≤ b → b < n → cls l 0 s (p + b) = own
 | 0, p => by simp only [rowOK, true_iff]; intro b h1 h2; omega
 | n + 1, p => by
  unfold rowOK
  split <;> rename_i h
  ·rw [rowOK_iff l own s n (p + 1)]
   constructor
   ·intro hh b h1 h2
    by_cases h0 : b = 0
    ·subst h0; rw [show p + 0 = p by omega]; exact h
    ·have := hh (b - 1) (by omega) (by omega); rw [show p + 1 + (b - 1) = p + b by omega] at this; exact this
   ·intro hh b h1 h2; have := hh (b + 1) (by omega) (by omega); rw [show p + (b + 1) = p + 1 + b by omega] at this; exact this
  ·simp only [Bool.false_eq_true, false_iff]; intro hh; have := hh 0 (by omega) (by omega); rw [show p + 0 = p by omega] at this; exact h this
theorem sqOK_iff (l : List S143) (own p : Int) (n : Nat) : ∀ (m : Nat) (s : Int), sqOK l own p n m s = true ↔ ∀ a : Int, 0 ≤ a → a < m → rowOK l own (s + a) n p = true
 | 0, s => by simp only [sqOK, true_iff]; intro b h1 h2; omega
 | m + 1, s => by
  unfold sqOK
  split <;> rename_i h
  ·rw [sqOK_iff l own p n m (s + 1)]
   constructor
   ·intro hh b h1 h2
    by_cases h0 : b = 0
    ·subst h0; rw [show s + 0 = s by omega]; exact h
    ·have := hh (b - 1) (by omega) (by omega); rw [show s + 1 + (b - 1) = s + b by omega] at this; exact this
   ·intro hh b h1 h2; have := hh (b + 1) (by omega) (by omega); rw [show s + (b + 1) = s + 1 + b by omega] at this; exact this
  ·simp only [Bool.false_eq_true, false_iff]; intro hh; have := hh 0 (by omega) (by omega); rw [show s + 0 = s by omega] at this; exact h this
def sure (l : List S143) (own s p : Int) (o : Nat) : Bool := sqOK l own (p - o) (2 * o + 1) (2 * o + 1) (s - o)
theorem sure_iff (l : List S143) (own s p : Int) (o : Nat) : sure l own s p o = true ↔ ∀ a b : Int, -(o : Int) ≤ a → a ≤ o → -(o : Int) ≤ b → b ≤ o → cls l 0 (s + a) (p + b) = own := by
 unfold sure; rw [sqOK_iff]
 constructor
 ·intro h a b h1 h2 h3 h4; have := (rowOK_iff _ _ _ _ _).mp (h (a + o) (by omega) (by omega)) (b + o) (by omega) (by omega); rw [show s - (o : Int) + (a + o) = s + a by omega, show p - (o : Int) + (b + o) = p + b by omega] at this; exact this
 ·intro h a h1 h2; rw [rowOK_iff]; intro b h3 h4; have := h (a - o) (b - o) (by omega) (by omega) (by omega) (by omega); rw [show s + (a - (o : Int)) = s - o + a by omega, show p + (b - (o : Int)) = p - o + b by omega] at this; exact this
theorem IsSure_l1 (l : List S143) (own s p : Int) (o : Nat) (hl : l.length < 4611686018427387904) (hs : 0 ≤ s ∧ s ≤ 10000) (hp : 0 ≤ p ∧ p ≤ 1000) (ho : o ≤ 10) (x : Int) (hx : s - o ≤ x ∧ x ≤ s + o) (R : Bool)
  (hR : Ev (fun k => L_IsSureClass.l0 k l (o : Int) own (wrap64 (x + 1)) s p) (R, 0)) : ∀ (n : Nat) (y : Int), y + n = p + o + 1 → p - o ≤ y → Ev (fun k => L_IsSureClass.l1 k l (o : Int) own x y s p) (if rowOK l own x n y = true then R else false, 0)
 | 0, y, h, hy => by
  refine Ev.succ ?_; simp only [L_IsSureClass.l1]; rw [w64 (n := p + o) (by omega)]; simp only [show ¬ y ≤ p + (o : Int) by omega, if_false, rowOK, if_true]; exact hR
 | n + 1, y, h, hy => by
  refine Ev.succ ?_; simp only [L_IsSureClass.l1]; rw [w64 (n := p + o) (by omega), w64 (n := y + 1) (by omega)]; simp only [show y ≤ p + (o : Int) by omega, if_true]; refine Ev.bind (classOf_ev l x y hl) ?_; unfold rowOK
  by_cases e : cls l 0 x y = own
  ·simp only [e, if_true]; exact IsSure_l1 l own s p o hl hs hp ho x hx R hR n (y + 1) (by omega) (by omega)
  ·simp only [e, if_false, Bool.false_eq_true]; exact Ev.some
theorem IsSure_l0 (l : List S143) (own s p : Int) (o : Nat) (hl : l.length < 4611686018427387904) (hs : 0 ≤ s ∧ s ≤ 10000) (hp : 0 ≤ p ∧ p ≤ 1000) (ho : o ≤ 10) : ∀ (m : Nat) (x : Int), x + m = s + o + 1 → s - o ≤ x → Ev (fun k => L_IsSureClass.l0 k l (o : Int) own x s p) (sqOK l own (p - o) (2 * o + 1) m x, 0)
 | 0, x, h, hx => by
  refine Ev.succ ?_; simp only [L_IsSureClass.l0]; rw [w64 (n := s + o) (by omega)]; simp only [show ¬ x ≤ s + (o : Int) by omega, if_false, sqOK]; exact Ev.some
 | m + 1, x, h, hx => by
  refine Ev.succ ?_; simp only [L_IsSureClass.l0]; rw [w64 (n := s + o) (by omega), w64 (n := p - o) (by omega)]; simp only [show x ≤ s + (o : Int) by omega, if_true]; have ih := IsSure_l0 l own s p o hl hs hp ho m (x + 1) (by omega) (by omega); unfold sqOK; exact IsSure_l1 l own s p o hl hs hp ho x (by omega) _ (by rw [w64 (by omega)]; exact ih) (2 * o + 1) (p - o) (by omega) (by omega)
theorem Sure_l1 (l : List S143) (own s p : Int) (o : Nat) (hl : l.length < 4611686018427387904) (hs : 0 ≤ s ∧ s ≤ 10000) (hp : 0 ≤ p ∧ p ≤ 1000) (ho : o ≤ 10) (x : Int) (hx : -(o : Int) ≤ x ∧ x ≤ o) (R : Bool)
  (hR : Ev (fun k => Rf_Sure.l0 k l (o : Int) own (wrap64 (x + 1)) s p) R) : ∀ (n : Nat) (y : Int), y + n = o + 1 → -(o : Int) ≤ y → Ev (fun k => Rf_Sure.l1 k l (o : Int) own x y s p) (if rowOK l own (s + x) n (p + y) = true then R else false)
 | 0, y, h, hy => by
  refine Ev.succ ?_; simp only [Rf_Sure.l1]; simp only [show ¬ y ≤ (o : Int) by omega, if_false, rowOK, if_true]; exact hR
 | n + 1, y, h, hy => by
  refine Ev.succ ?_; simp only [Rf_Sure.l1]; rw [w64 (n := y + 1) (by omega), w64 (n := s + x) (by omega), w64 (n := p + y) (by omega)]; simp only [show y ≤ (o : Int) by omega, if_true]; refine Ev.bind (Class_ev l (s + x) (p + y) hl) ?_; unfold rowOK
  by_cases e : cls l 0 (s + x) (p + y) = own
  ·simp only [e, if_true]; rw [show p + y + 1 = p + (y + 1) by omega]; exact Sure_l1 l own s p o hl hs hp ho x hx R hR n (y + 1) (by omega) (by omega)
  ·simp only [e, if_false, Bool.false_eq_true]; exact Ev.some
theorem Sure_l0 (l : List S143) (own s p : Int) (o : Nat) (hl : l.length < 4611686018427387904) (hs : 0 ≤ s ∧ s ≤ 10000) (hp : 0 ≤ p ∧ p ≤ 1000) (ho : o ≤ 10) : ∀ (m : Nat) (x : Int), x + m = o + 1 → -(o : Int) ≤ x → Ev (fun k => Rf_Sure.l0 k l (o : Int) own x s p) (sqOK l own (p - o) (2 * o + 1) m (s + x))
 | 0, x, h, hx => by
  refine Ev.succ ?_; simp only [Rf_Sure.l0]; simp only [show ¬ x ≤ (o : Int) by omega, if_false, sqOK]; exact Ev.some
 | m + 1, x, h, hx => by
  refine Ev.succ ?_; simp only [Rf_Sure.l0]; rw [w64 (n := -(o : Int)) (by omega)]; simp only [show x ≤ (o : Int) by omega, if_true]; have ih := Sure_l0 l own s p o hl hs hp ho m (x + 1) (by omega) (by omega); unfold sqOK; rw [show s + x + 1 = s + (x + 1) by omega]; exact Sure_l1 l own s p o hl hs hp ho x (by omega) _ (by rw [w64 (by omega)]; exact ih) (2 * o + 1) (-(o : Int)) (by omega) (by omega)
theorem Sure_ev (l : List S143) (s p : Int) (o : Nat) (hl : l.length < 4611686018427387904) (hs : 0 ≤ s ∧ s ≤ 10000) (hp : 0 ≤ p ∧ p ≤ 1000) (ho : o ≤ 10) : Ev (fun k => Rf_Sure.f k l s p (o : Int)) (sure l (cls l 0 s p) s p o) := by
 unfold Rf_Sure.f sure; refine Ev.bind (Class_ev l s p hl) ?_; rw [w64 (n := -(o : Int)) (by omega)]; exact Sure_l0 l _ s p o hl hs hp ho (2 * o + 1) (-(o : Int)) (by omega) (by omega)
def fE (o : Int) : Int := if 0 ≤ o ∧ o ≤ 10 then 0 else 2
theorem IsSure_ev (l : List S143) (s p o : Int) (hl : l.length < 4611686018427387904) : Ev (fun k => L_IsSureClass.f k l s p o)
  (if two (two (clE l).2 (gE s p)) (fE o) = 0 then (if cls l 0 s p < 0 then (false, 12) else (sure l (cls l 0 s p) s p o.toNat, 0)) else (false, two (two (clE l).2 (gE s p)) (fE o))) := by
 unfold L_IsSureClass.f; refine Ev.bind (openClass_ev l s p hl) ?_; simp only [within_eq, unless_eq, Option.bind_some, decide_eq_true_eq]; refine Ev.bind (first_ev _ (by simp)) ?_; rw [fnz_two, show (if 0 ≤ o ∧ o ≤ 10 then (0 : Int) else 2) = fE o from rfl]; generalize hd : two (clE l).2 (gE s p) = d
 by_cases h : two d (fE o) = 0
 ·simp only [h, if_true]; refine Ev.bind (classOf_ev l s p hl) ?_
  by_cases h2 : cls l 0 s p < 0
  ·simp only [h2, if_true]; exact Ev.some
  ·simp only [h2, if_false]; have hd0 : d = 0 := by unfold two at h; split at h <;> assumption
   have ho : 0 ≤ o ∧ o ≤ 10 := by unfold two fE at h; rw [if_pos hd0] at h; split at h <;> omega
   have hg : gE s p = 0 := by subst hd0; unfold two at hd; split at hd <;> omega
   have hg2 : (0 ≤ s ∧ s ≤ 10000) ∧ (0 ≤ p ∧ p ≤ 1000) := by unfold gE at hg; split at hg <;> omega
   obtain ⟨q, rfl⟩ : ∃ q : Nat, o = (q : Int) := ⟨o.toNat, by omega⟩; rw [w64 (by omega), Int.toNat_natCast]; exact IsSure_l0 l _ s p q hl hg2.1 hg2.2 (by omega) (2 * q + 1) (s - q) (by omega) (by omega)
 ·simp only [h, if_false]; exact Ev.some
theorem ClassOf_ev (l : List S143) (s p : Int) (hl : l.length < 4611686018427387904) : Ev (fun k => L_ClassOf.f k l s p)
  (if two (clE l).2 (gE s p) = 0 then (if cls l 0 s p < 0 then (0, 12) else (cls l 0 s p, 0)) else (0, two (clE l).2 (gE s p))) := by
 unfold L_ClassOf.f; refine Ev.bind (openClass_ev l s p hl) ?_
 by_cases h : two (clE l).2 (gE s p) = 0
 ·simp only [h, if_true, unless_eq, Option.bind_some, decide_eq_true_eq]; refine Ev.bind (classOf_ev l s p hl) ?_
  by_cases h2 : cls l 0 s p < 0
  ·simp only [h2, if_true, show ¬ cls l 0 s p ≥ 0 by omega, if_false, show mx (cls l 0 s p) 0 = 0 by unfold mx; split <;> omega]; exact Ev.some
  ·simp only [h2, if_false, show cls l 0 s p ≥ 0 by omega, if_true, show mx (cls l 0 s p) 0 = cls l 0 s p by unfold mx; split <;> omega]; exact Ev.some
 ·simp only [h, if_false]; exact Ev.some
theorem CopyClasses_eq (l : List S143) (h : l.length < 439804651110) : Rf_CopyClasses.f l = some l := by
 unfold Rf_CopyClasses.f; simp only [Option.bind_some, List.length_nil, List.nil_append]; rw [if_pos (by omega)]
theorem Classes_j5 (l : List S143) (s p o : Int) (is : Bool) (e d x : Int) (hl : l.length < 439804651110)
    (h1 : two d x ≠ 0 → is = false ∧ e = two d x)
    (h2 : two d x = 0 → two (two (clE l).2 (gE s p)) (fE o) = 0 ∧ ¬ cls l 0 s p < 0 ∧ is = sure l (cls l 0 s p) s p o.toNat ∧ e = 0) :
    Ev (fun k => Lw_CloudClasses.j5 k l o is e d x s p) true := by
  refine Ev.succ ?_; simp only [Lw_CloudClasses.j5, both_eq, Option.bind_some]; rw [show (if d = 0 then x else d) = two d x from rfl]
  by_cases h : two d x = 0
  · obtain ⟨a1, a2, a3, a4⟩ := h2 h; have hd0 : two (clE l).2 (gE s p) = 0 := by generalize two (clE l).2 (gE s p) = d at a1; unfold two at a1; split at a1 <;> assumption
    have ho : 0 ≤ o ∧ o ≤ 10 := by rw [hd0] at a1; unfold two fE at a1; simp only [if_true] at a1; split at a1 <;> omega
    have hg : gE s p = 0 := by unfold two at hd0; split at hd0 <;> omega
    have hg2 : (0 ≤ s ∧ s ≤ 10000) ∧ (0 ≤ p ∧ p ≤ 1000) := by unfold gE at hg; split at hg <;> omega
    simp only [h, a4, if_true]; obtain ⟨q, rfl⟩ : ∃ q : Nat, o = (q : Int) := ⟨o.toNat, by omega⟩; refine Ev.bind (Sure_ev l s p q (by omega) hg2.1 hg2.2 (by omega)) ?_; rw [Int.toNat_natCast] at a3; rw [← a3, bne_self_eq_false]; refine Ev.succ ?_; simp only [Lw_CloudClasses.j6, Bool.false_eq_true, if_false, CopyClasses_eq l hl, Option.bind_some]; have e2 : wrap64 (Int.tdiv (q : Int) 2) = ((q / 2 : Nat) : Int) := by
      rw [Int.tdiv_eq_ediv_of_nonneg (by omega), w64 (by omega)]; omega
    rw [e2]; have H := IsSure_ev l s p ((q / 2 : Nat) : Int) (by omega); have H0 := IsSure_ev l s p 0 (by omega); rw [hd0, show fE ((q / 2 : Nat) : Int) = 0 by unfold fE; rw [if_pos (by omega)], show two 0 0 = 0 from rfl, if_pos rfl, if_neg a2] at H; rw [hd0, show fE 0 = 0 from rfl, show two 0 0 = 0 from rfl, if_pos rfl, if_neg a2] at H0; refine Ev.bind H ?_; refine Ev.bind H0 ?_; have hz : sure l (cls l 0 s p) s p (0 : Int).toNat = true := by
      rw [sure_iff]; intro a b b1 b2 b3 b4; rw [show a = 0 by simp at b1 b2; omega, show b = 0 by simp at b3 b4; omega, Int.add_zero, Int.add_zero]
    simp only [hz, if_true, Int.toNat_natCast]
    cases his : is with
    | false => simp only [Bool.false_eq_true, if_false]; exact Ev.some
    | true =>
      simp only [if_true]; have : sure l (cls l 0 s p) s p (q / 2) = true := by
        rw [sure_iff]; intro a b b1 b2 b3 b4; rw [his] at a3; exact (sure_iff l _ s p q).mp a3.symm a b (by omega) (by omega) (by omega) (by omega)
      rw [this]; exact Ev.some
  · obtain ⟨rfl, rfl⟩ := h1 h; simp only [h, if_false, if_true, Bool.not_false]; exact Ev.some
theorem CloudClasses_ev (l : List S143) (s p o : Int) : Ev (fun k => Lw_CloudClasses.f k l s p o) true := by
 unfold Lw_CloudClasses.f; refine Ev.bind awake_ev ?_; simp only [if_true]
 by_cases hl : (l.length : Int) > 12
 ·simp only [hl, if_true]; exact Ev.some
 simp only [hl, if_false, CopyClasses_eq l (by omega), Option.bind_some]; refine Ev.bind (CheckClasses_ev l (by omega)) ?_; refine Ev.bind (ClassOf_ev l s p (by omega)) ?_; refine Ev.bind (IsSure_ev l s p o (by omega)) ?_; refine Ev.bind (RefCheckClasses_ev l (by omega)) ?_; simp only [if_true, bne_self_eq_false]; refine Ev.succ ?_; simp only [Lw_CloudClasses.j0, Bool.false_eq_true, if_false, SignalErr_eq, both_eq, Option.bind_some]; rw [show (if (clE l).2 = 0 then gE s p else (clE l).2) = two (clE l).2 (gE s p) from rfl]; have h5 := Classes_j5 l s p o; generalize hd : two (clE l).2 (gE s p) = d at h5 ⊢; generalize hC : (if d = 0 then (if cls l 0 s p < 0 then (0, 12) else (cls l 0 s p, 0)) else (0, d) : Int × Int) = C; generalize hS : (if two d (fE o) = 0 then (if cls l 0 s p < 0 then (false, 12) else (sure l (cls l 0 s p) s p o.toNat, 0)) else (false, two d (fE o)) : Bool × Int) = S; have hj2 : ∀ x : Int, (d = 0 → x = 0 ∧ ¬ cls l 0 s p < 0 ∨ x = 12 ∧ cls l 0 s p < 0) → (d ≠ 0 → x = d) → Ev (fun k => Lw_CloudClasses.j2 k l o C.1 C.2 S.1 S.2 d x s p) true := by
  intro x hx0 hx1; have hj3 : Ev (fun k => Lw_CloudClasses.j3 k l o S.1 S.2 d x false s p) true := by
   refine Ev.succ ?_; simp only [Lw_CloudClasses.j3, Bool.false_eq_true, if_false, Within_eq, Option.bind_some]
   by_cases h : d = 0
   ·simp only [h, if_true]
    by_cases ho : 0 ≤ o ∧ o ≤ 10
    ·have e0 : fE o = 0 := by unfold fE; rw [if_pos ho]
     simp only [ho, and_self, decide_true, Bool.not_true]; refine Ev.succ ?_; simp only [Lw_CloudClasses.j4, Bool.false_eq_true, if_false]; rw [h, e0, show two 0 0 = 0 from rfl, if_pos rfl] at hS; refine h5 S.1 S.2 0 x (by omega) (fun hx => ?_) (fun hx => ?_)
     ·rcases hx0 h with ⟨rfl, h6⟩ | ⟨rfl, h6⟩
      ·exact absurd rfl hx
      ·rw [if_pos h6] at hS; rw [← hS]; exact ⟨rfl, rfl⟩
     ·rcases hx0 h with ⟨rfl, h6⟩ | ⟨rfl, h6⟩
      ·rw [if_neg h6] at hS; rw [← hS]; refine ⟨by rw [h, e0]; rfl, h6, rfl, rfl⟩
      ·exact absurd hx (by decide)
    ·have e0 : fE o = 2 := by unfold fE; rw [if_neg ho]
     simp only [ho, decide_false, Bool.not_false]; refine Ev.succ ?_; simp only [Lw_CloudClasses.j4, if_true]; rw [h, e0, show two 0 2 = 2 from rfl, if_neg (by decide)] at hS; refine h5 S.1 S.2 2 x (by omega) (fun hx => ?_) (fun hx => ?_)
     ·rw [← hS]; exact ⟨rfl, rfl⟩
     ·exact absurd hx (by unfold two; rw [if_neg (by decide)]; decide)
   ·simp only [h, if_false]; refine Ev.succ ?_; simp only [Lw_CloudClasses.j4, Bool.false_eq_true, if_false]; have e3 : two d (fE o) = d := by unfold two; rw [if_neg h]
    rw [e3, if_neg h] at hS; have e4 : two d x = d := by unfold two; rw [if_neg h]
    refine h5 S.1 S.2 d x (by omega) (fun hx => ?_) (fun hx => ?_)
    ·rw [← hS, e4]; exact ⟨rfl, rfl⟩
    ·rw [e4] at hx; exact absurd hx h
  refine Ev.succ ?_; simp only [Lw_CloudClasses.j2]
  by_cases h : d = 0
  ·rw [if_pos h] at hC
   rcases hx0 h with ⟨rfl, h6⟩ | ⟨rfl, h6⟩
   ·rw [if_neg h6] at hC; subst hC; simp only [if_true]; refine Ev.bind (Class_ev l s p (by omega)) ?_; rw [bne_self_eq_false]; exact hj3
   ·rw [if_pos h6] at hC; subst hC; simp only [if_true, show ¬ (12 : Int) = 0 by omega, if_false]; exact hj3
  ·rw [if_neg h] at hC; have := hx1 h; subst this; subst hC; simp only [h, if_true, if_false]; exact hj3
 by_cases h : d = 0
 ·simp only [h, if_true]; refine Ev.bind (Class_ev l s p (by omega)) ?_; refine Ev.succ ?_; simp only [Lw_CloudClasses.j1]
  by_cases h6 : cls l 0 s p < 0
  ·simp only [h6, decide_true, if_true]; have := hj2 12 (fun _ => .inr ⟨rfl, h6⟩) (fun hn => absurd h hn); rw [h] at this; exact this
  ·simp only [h6, decide_false, Bool.false_eq_true, if_false]; have := hj2 0 (fun _ => .inl ⟨rfl, h6⟩) (fun hn => absurd h hn); rw [h] at this; exact this
 ·simp only [h, if_false]; refine Ev.succ ?_; simp only [Lw_CloudClasses.j1, Bool.false_eq_true, if_false]; exact hj2 d (fun hn => absurd hn h) (fun _ => rfl)
theorem CloudClasses_pure (l : List S143) (_ : l.length ≤ maxLen ∧ ∀ x ∈ l, ((Lit.int .i64 x.f0.f0).wf = true ∧ (Lit.int .i64 x.f0.f1).wf = true) ∧ ((Lit.int .i64 x.f1.f0).wf = true ∧ (Lit.int .i64 x.f1.f1).wf = true)) (s : Int) (_ : (Lit.int .i64 s).wf = true) (p : Int) (_ : (Lit.int .i64 p).wf = true) (o : Int) (_ : (Lit.int .i64 o).wf = true) : ∃ k, Lw_CloudClasses.f k l s p o = some true := (CloudClasses_ev l s p o).ex
end Go.Proofs.Yteiafijbgjgiaaa.P
