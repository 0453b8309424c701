/- Walks of the program's functions (printed, made shorter), each with what it computes. -/
import Derived.Test.YtjnkphmcndaijaaDoorProg
import Derived.Below
import Derived.Deep.Draws
import Derived.Deep.AppendLies
import Derived.Maps.AppendAt
import Derived.OwnWalk
import Derived.Laws.BytesArg
import Derived.Laws.MakeOwn
import Derived.Laws.OwnMore
import Derived.Deep.OwnRows
import Derived.Tactics
import Derived.Lib.ConvBytes
import Derived.Laws.Slices
import Derived.WalkKit
import Derived.KernelRfl
import Derived.RowKit3
import Derived.Deep.LoopGhost
import Derived.Deep.QuietTactic
import Derived.BigQuiet
import Derived.WideLaws
import Derived.Deep.DeepCutAuto
import Derived.Deep.CutBlock
import Derived.Deep.RegionHeld3
import Derived.Laws.Rows
import Derived.Lib.AppendStr
import Derived.ArgAppend
import Derived.Laws.IdiomCopy
import Derived.OrdersHeld
import Derived.Laws.BitsLemmas
import Derived.RowKit
import Derived.RangeFuncLeaves
import Derived.RangeFuncOwn
import Derived.Test.YtjnkphmcndaijaaDoorDts01
import Derived.Test.YtjnkphmcndaijaaDoorDts02
import Derived.Test.YtjnkphmcndaijaaDoorDts03
import Derived.Shelf.Abstract
namespace Go.Proofs.YtjnkphmcndaijaaDoor.A
set_option maxHeartbeats 8000000
set_option maxRecDepth 100000
open Go.RowKit Go.Proofs.YtjnkphmcndaijaaDoorW.PrintWords Go.Proofs.YtjnkphmcndaijaaDoorW.PrintLast Go.Proofs.YtjnkphmcndaijaaDoorW.PrintMore
attribute [local go_sem] max2_int min2_int max_two min_two max_three min_three max_four min_four
set_option linter.unusedVariables false
set_option linter.unusedSimpArgs false
section
def errW : Option Int → Value
  | none => .nilIface
  | some c => .iface 0 (.int .i64 c)
theorem errW_none : errW none = .nilIface := rfl
theorem errW_some (c : Int) : errW (some c) = .iface 0 (.int .i64 c) := rfl
theorem ret_int {k : IntKind} {a b : Int} (h : a = b) : Ending.returned (.int k a) = Ending.returned (.int k b) := by rw [h]
theorem ret_bool {a b : Bool} (h : a = b) : Ending.returned (.bool a) = Ending.returned (.bool b) := by rw [h]
def PredI (g : Nat) (lb : Array Value) (p : Int → Bool) (w : World) : Prop :=
  ∀ (W : World) (x : Int), Below w.heap.size w W → Calls Tryd.prog g (#[.int .i64 x] ++ lb) W fun e w' => e = .returned (.bool (p x)) ∧ ∃ q, w' = W.drewN q
def idxF (p : Int → Bool) (l : List Int) : Int := match l.findIdx? p with | some i => (i : Int) | none => -1
theorem idxF_hit (p : Int → Bool) (l : List Int) (k : Nat) (h : k < l.length) (hp : p (rd l k) = true) (h0 : ∀ j, j < k → p (rd l j) = false) : idxF p l = k := by
  have : l.findIdx? p = some k := by
    rw [List.findIdx?_eq_some_iff_getElem]
    refine ⟨h, ?_, fun j hj => ?_⟩
    · simpa [rd, List.getD_eq_getElem?_getD, List.getElem?_eq_getElem h] using hp
    · have := h0 j hj
      have hj' : j < l.length := Nat.lt_trans hj h
      simpa [rd, List.getD_eq_getElem?_getD, List.getElem?_eq_getElem hj'] using this
  simp [idxF, this]
theorem idxF_miss (p : Int → Bool) (l : List Int) (h0 : ∀ j, j < l.length → p (rd l j) = false) : idxF p l = -1 := by
  have : l.findIdx? p = none := by
    rw [List.findIdx?_eq_none_iff]
    intro x hx
    obtain ⟨j, hj, rfl⟩ := List.getElem_of_mem hx
    simpa [rd, List.getD_eq_getElem?_getD, List.getElem?_eq_getElem hj] using h0 j hj
  simp [idxF, this]
def EstG (w : World) : Prop := w.cell? ⟨0, 0, none⟩ = some (.func (.func 192) #[] #[]) ∧ w.cell? ⟨0, 1, none⟩ = some (.func (.func 193) #[] #[]) ∧ w.cell? ⟨0, 2, none⟩ = some (.func (.func 194) #[] #[]) ∧ w.cell? ⟨0, 3, none⟩ = some (.func (.func 195) #[] #[])
theorem EstG.below {w w' : World} (h : EstG w) (hb : Below w.heap.size w w') : EstG w' :=
  ⟨pw_cell_below hb h.1, pw_cell_below hb h.2.1, pw_cell_below hb h.2.2.1, pw_cell_below hb h.2.2.2⟩
def iterN {σ : Type} (step : Nat → σ → Option σ) : Nat → σ → Option σ
  | 0, s => some s
  | N + 1, s => (iterN step N s).bind (step N)
theorem iterN_mono {σ : Type} {f g : Nat → σ → Option σ} (h : ∀ j s, LeO (f j s) (g j s)) (N : Nat) (s : σ) : LeO (iterN f N s) (iterN g N s) := by
  induction N with
  | zero => exact LeO.refl _
  | succ N ih => exact LeO.bind ih (fun x => h N x)
theorem iterN_pre {σ : Type} {f : Nat → σ → Option σ} {N k : Nat} {s r : σ} (h : iterN f N s = some r) (hk : k ≤ N) : ∃ q, iterN f k s = some q := by
  induction N generalizing r with
  | zero => obtain rfl : k = 0 := by omega
            exact ⟨_, h⟩
  | succ N ih =>
    obtain ⟨q, hq, _⟩ := Option.bind_eq_some_iff.mp h
    by_cases e : k = N + 1
    · subst e; exact ⟨_, h⟩
    · exact ih hq (by omega)
theorem iterN_at {σ : Type} {f : Nat → σ → Option σ} {N k : Nat} {s r q : σ} (h : iterN f N s = some r) (hk : k < N) (hq : iterN f k s = some q) : ∃ q', f k q = some q' ∧ iterN f (k + 1) s = some q' := by
  obtain ⟨q', hq'⟩ := iterN_pre h (show k + 1 ≤ N by omega)
  have : (iterN f k s).bind (f k) = some q' := hq'
  rw [hq] at this
  exact ⟨q', this, hq'⟩
theorem C_putObj {k : IntKind} {A : Option Addr} {n l : Nat} {xs : List Int} {W : World} {o o' : Obj} (hl : W.heap[l]? = some o) (ho : o.isCells = false) (h : Kd.C (Kd.int k) W A n xs) : Kd.C (Kd.int k) (W.putObj l o') A n xs := by
  refine ⟨h.1, h.2.1, fun hn => ?_⟩
  obtain ⟨ad, e, hc⟩ := h.2.2 hn
  refine ⟨ad, e, fun j p hp => ?_⟩
  obtain ⟨c, h1, h2, h3⟩ := hc j p hp
  exact ⟨c, h1, h2, fun i u hu => cell_kept (h3 i u hu) (grownBy_putObj' W l o') (fun r e => by cases e; exact ⟨o, hl, ho⟩)⟩
theorem idxF_any (p : Int → Bool) (l : List Int) : decide (0 ≤ idxF p l) = l.any p := by
  unfold idxF
  cases h : l.findIdx? p with
  | none =>
    rw [List.findIdx?_eq_none_iff] at h
    have : l.any p = false := by rw [List.any_eq_false]; exact fun x hx => by simp [h x hx]
    rw [this]; rfl
  | some i =>
    rw [List.findIdx?_eq_some_iff_getElem] at h
    obtain ⟨hi, hp, _⟩ := h
    have : l.any p = true := List.any_eq_true.mpr ⟨_, List.getElem_mem hi, hp⟩
    rw [this]
    simp
def QM (n : Nat) (P : Program) (fn : Func) (R : Ending → World → Prop) : Exit → Act → World → Prop
  | .normal, a, w => bodyPostM Fence.wide n P fn R .normal a w
  | .ret, a, w => bodyPostM Fence.wide n P fn R .ret a w
  | _, _, _ => False
theorem QM.le {n : Nat} {P : Program} {fn : Func} {R : Ending → World → Prop} {e : Exit} {a : Act} {w : World} (h : QM n P fn R e a w) : bodyPostM Fence.wide n P fn R e a w := by
  cases e with
  | normal => exact h
  | ret => exact h
  | _ => exact h.elim
theorem bodyPostM_ret {n : Nat} {P : Program} {fn : Func} {R : Ending → World → Prop} {tmps : Array Value} {w : World} {v : Value} (hr : (results fn tmps).run P w = .ok v w) (_ : ([] : List Deferred) = []) (hR : R (.returned v) w) :
    QM n P fn R .ret { tmps := tmps, defers := [] } w := ⟨v, hr, hR⟩
theorem info3 : (Tryd.prog.info? 3).map (fun i => (i.zero, i.size, i.bytes)) = some (some (.int .i64 0), 1, 8) := by kernel_rfl
theorem info22 : (Tryd.prog.info? 22).map (fun i => (i.zero, i.size, i.bytes)) = some (some (.slice none 0 0), 1, 24) := by kernel_rfl
theorem info31 : (Tryd.prog.info? 31).map (fun i => (i.zero, i.size, i.bytes)) = some (some (.int .i64 0), 1, 8) := by kernel_rfl
def rd_L1 (xs : List (List Int)) (i : Int) : (List Int) := xs.getD i.toNat ([] : List Int)
theorem at_L1 {w : World} {A : Option Addr} {n : Nat} {xs : List (List Int)} (h : Kd.C (Kd.slice 3 (Kd.int .i64)) w A n xs) (i : Int) (h0 : 0 ≤ i) (h1 : i < n) : ∃ ad A0 c0, A = some ad ∧ w.cell? (ad.add i.toNat) = some (.slice A0 (rd_L1 xs i).length c0) ∧ (rd_L1 xs i).length ≤ c0 ∧ (Kd.int .i64).C w A0 (rd_L1 xs i).length (rd_L1 xs i) := by
  obtain ⟨ad, c, e, _, hK, hc0⟩ := Kd.C_get h ([] : List Int) i h0 h1
  have hc : ∀ j u, c[j]? = some u → w.cell? (ad.add (i.toNat * 1 + j)) = some u := hc0
  obtain ⟨A0, c0, rfl, l0, g0⟩ := hK
  exact ⟨ad, A0, c0, e, by have hq := hc 0 _ rfl; rwa [Nat.mul_one, Nat.add_zero] at hq, l0, g0⟩
end
section
theorem eqA26 (d : Nat) (w : World) (x0 y0 : Int) (x1 y1 : Int) :
  (Op.equalIn (d + 2) 26 (.agg #[.int .i64 x0, .int .i64 x1]) (.agg #[.int .i64 y0, .int .i64 y1])).run Tryd.prog w = .ok (x0 == y0 && (x1 == y1)) w := by
 refine eqA_of Tryd.underlying26 (by kernel_rfl) ?_
 refine eqf_cons (by rfl) (by go_simp; rfl) (by go_simp; rfl) (by go_simp) ?_
 exact eqf_last (by rfl) (by go_simp; rfl) (by go_simp; rfl) (by go_simp)
end
section
def line_first.l0 : Nat → List Int → Int → Int → Option (Int)
 | 0, _, _, _ => none
 | k + 1, x5, x6, x7 => if x7 < x6 then (if 0 ≤ x7 then (if x7 < (x5.length : Int) then (if (rd x5 x7) = 0 then (line_first.l0 k x5 x6 (wrap64 (x7 + 1))) else (some (rd x5 x7))) else (none)) else (none)) else (some 0)
def line_first.f (k : Nat) (l0 : List Int) : Option (Int) := line_first.l0 k l0 (l0.length : Int) 0
theorem line_first.mono_l : ∀ k, (∀ y0 y1 y2, LeO (line_first.l0 k y0 y1 y2) (line_first.l0 (k + 1) y0 y1 y2))
 | 0 => fun _ _ _ r h => by simp [line_first.l0] at h
 | k + 1 => by
  have ih0 := line_first.mono_l k
  ·intro y0 y1 y2
   unfold line_first.l0
   repeat' first
   | (with_reducible exact ih0 _ _ _)
   | (with_reducible exact LeO.refl _)
   | (with_reducible exact LeO.none _)
   | (with_reducible refine LeO.ite ?_ ?_)
   | (with_reducible refine LeO.bind ?_ (fun _ => ?_))
   | exact ih0 _ _ _
   | exact LeO.none _
   | refine LeO.ite ?_ ?_
   | refine LeO.bind ?_ (fun _ => ?_)
theorem line_first.mono : ∀ a0 k, LeO (line_first.f k a0) (line_first.f (k + 1) a0) := by
 intro a0 k
 have ih0 := line_first.mono_l k
 unfold line_first.f
 repeat' first
   | (with_reducible exact ih0 _ _ _)
   | (with_reducible exact LeO.refl _)
   | (with_reducible exact LeO.none _)
   | (with_reducible refine LeO.ite ?_ ?_)
   | (with_reducible refine LeO.bind ?_ (fun _ => ?_))
   | exact ih0 _ _ _
   | exact LeO.none _
   | refine LeO.ite ?_ ?_
   | refine LeO.bind ?_ (fun _ => ?_)
theorem line_first.calls (k : Nat) (A0 : Option Addr) (c0 : Nat) (l0 : List Int) (r : Int) (w : World) (hr0 : Kd.C (Kd.int .i64) w A0 l0.length l0) (hc0 : l0.length ≤ c0) (h : line_first.f k l0 = some r) :
  Calls Tryd.prog 91 #[.slice A0 l0.length c0] w fun e w' => e = .returned (.int .i64 r) ∧ Drawn0 w w' := by
 have HR0 := m0 hr0
 have HC0 := m0 hc0
 clear hr0 hc0
 have H : (line_first.l0 k l0 (l0.length : Int) 0) = some r := h
 clear h
 have H' := m0 H
 clear H
 go_enter Tryd.func91, Tryd.ntmps91
 go_wp2
 go_loopg [7] k (fun kq v7 w' => ∃ (x7_1 : Int), v7 = .int .i64 x7_1 ∧ Aside0 (line_first.l0 kq l0 (l0.length : Int) x7_1 = some r) ∧ Aside0 (kq ≤ k) ∧ Drawn0 w w')
 case atStart => exact ⟨(0), (by first | rfl | (simp; done) | (simp [*]; done)), H', ⟨Nat.le_refl _⟩, by repeat (first | exact Drawn0.refl _ | apply Drawn0.step)⟩
 case round =>
  clear H'
  obtain ⟨x7_1, rfl, HA, HK1, ⟨m1, rfl⟩⟩ := hrel
  cases gk with
  | zero => exact absurd HA.out (by simp [line_first.l0])
  | succ k1 =>
   have H := HA.out
   clear HA
   simp only [line_first.l0] at H
   by_cases c2 : x7_1 < (l0.length : Int)
   ·rw [if_pos c2] at H
    have c2b0 := decide_eq_true c2
    clear c2
    by_cases c3 : 0 ≤ x7_1
    ·rw [if_pos c3] at H
     have c3b0 := decide_eq_true c3
     clear c3
     by_cases c4 : x7_1 < (l0.length : Int)
     ·rw [if_pos c4] at H
      have c4b0 := decide_eq_true c4
      clear c4
      by_cases c5 : (rd l0 x7_1) = 0
      ·rw [if_pos c5] at H
       have c5b0 := beq_iff_eq.mpr c5
       have c5b1 := bne_eq_false_iff_eq.mpr c5
       clear c5
       have H' := m0 H
       clear H
       have p101 : 0 ≤ (x7_1 : Int) := of_decide_eq_true (by first | (with_reducible assumption) | assumption)
       have q101 : x7_1 < (l0.length : Int) := of_decide_eq_true (by first | (with_reducible assumption) | assumption)
       obtain ⟨ad101, e101, hx101_0⟩ := Kd.at_int HR0.out x7_1 p101 q101
       cases e101
       replace p101 := eq_true p101
       replace q101 := eq_true q101
       go_wp2
       go_roundg k1
       case measure => have := HK1.out; omega
       case rel => exact ⟨(wrap64 (x7_1 + 1)), (by first | rfl | (simp; done) | (simp [*]; done)), H', ⟨by have := HK1.out; omega⟩, by repeat (first | exact Drawn0.refl _ | apply Drawn0.step)⟩
      ·rw [if_neg c5] at H
       have c5b0 := beq_eq_false_iff_ne.mpr c5
       have c5b1 := bne_iff_ne.mpr c5
       obtain rfl := Option.some.inj H
       have p101 : 0 ≤ (x7_1 : Int) := of_decide_eq_true (by first | (with_reducible assumption) | assumption)
       have q101 : x7_1 < (l0.length : Int) := of_decide_eq_true (by first | (with_reducible assumption) | assumption)
       obtain ⟨ad101, e101, hx101_0⟩ := Kd.at_int HR0.out x7_1 p101 q101
       cases e101
       replace p101 := eq_true p101
       replace q101 := eq_true q101
       go_wp2
       go_ret
       exact ⟨by first | rfl | (simp; done) | (simp [*]; done), by repeat (first | exact Drawn0.refl _ | apply Drawn0.step)⟩
     ·rw [if_neg c4] at H
      exact absurd H (by simp)
    ·rw [if_neg c3] at H
     exact absurd H (by simp)
   ·rw [if_neg c2] at H
    have c2b0 := decide_eq_false c2
    clear c2
    obtain rfl := Option.some.inj H
    go_wp2
    go_ret
    exact ⟨by first | rfl | (simp; done) | (simp [*]; done), by repeat (first | exact Drawn0.refl _ | apply Drawn0.step)⟩
end
section
def line_unless.f (a0 : Bool) (a1 : Int) : Option (Int) := if a0 = true then (some 0) else (some a1)
theorem line_unless.calls (a0 : Bool) (a1 : Int) (r : Int) (w : World) (h : line_unless.f a0 a1 = some r) :
  Calls Tryd.prog 93 #[.bool a0, .int .i64 a1] w fun e w' => e = .returned (.int .i64 r) ∧ Drawn0 w w' := by
 have H : (if a0 = true then (some 0) else (some a1)) = some r := h
 clear h
 by_cases c3 : a0 = true
 ·subst c3
  rw [if_pos rfl] at H
  obtain rfl := Option.some.inj H
  go_enter Tryd.func93, Tryd.ntmps93
  go_wp2
  go_ret
  exact ⟨by first | rfl | (simp; done) | (simp [*]; done), by repeat (first | exact Drawn0.refl _ | apply Drawn0.step)⟩
 ·replace c3 := Bool.eq_false_iff.mpr c3
  subst c3
  rw [if_neg (show ¬ (false = true) by decide)] at H
  obtain rfl := Option.some.inj H
  go_enter Tryd.func93, Tryd.ntmps93
  go_wp2
  go_ret
  exact ⟨by first | rfl | (simp; done) | (simp [*]; done), by repeat (first | exact Drawn0.refl _ | apply Drawn0.step)⟩
end
section
def line_within.f (a0 : Int) (a1 : Int) (a2 : Int) : Option (Bool) := if a1 ≤ a0 then (some (decide (a0 ≤ a2))) else (some false)
theorem line_within.calls (a0 : Int) (a1 : Int) (a2 : Int) (r : Bool) (w : World) (h : line_within.f a0 a1 a2 = some r) :
  Calls Tryd.prog 105 #[.int .i64 a0, .int .i64 a1, .int .i64 a2] w fun e w' => e = .returned (.bool r) ∧ Drawn0 w w' := by
 have H : (if a1 ≤ a0 then (some (decide (a0 ≤ a2))) else (some false)) = some r := h
 clear h
 by_cases c4 : a1 ≤ a0
 ·rw [if_pos c4] at H
  have c4b0 := decide_eq_true c4
  clear c4
  obtain rfl := Option.some.inj H
  go_enter Tryd.func105, Tryd.ntmps105
  go_wp2
  go_ret
  exact ⟨by first | rfl | (simp; done) | (simp [*]; done), by repeat (first | exact Drawn0.refl _ | apply Drawn0.step)⟩
 ·rw [if_neg c4] at H
  have c4b0 := decide_eq_false c4
  clear c4
  obtain rfl := Option.some.inj H
  go_enter Tryd.func105, Tryd.ntmps105
  go_wp2
  go_ret
  exact ⟨by first | rfl | (simp; done) | (simp [*]; done), by repeat (first | exact Drawn0.refl _ | apply Drawn0.step)⟩
end
section
def Sp_int_106.l0 : Nat → List Int → Int → Int → Option (Int)
  | 0, _, _, _ => none
  | k + 1, x0, x3, x4 => if x4 < (x0.length : Int) then (if 0 ≤ x4 then (Sp_int_106.l0 k x0 (mx x3 (rd x0 x4)) (wrap64 (x4 + 1))) else (none)) else (some x3)
def Sp_int_106.f (k : Nat) (l0 : List Int) : Option (Int) := if (l0.length : Int) < 1 then (none) else (if 0 < (l0.length : Int) then (Sp_int_106.l0 k l0 (rd l0 0) 1) else (none))
theorem Sp_int_106.mono_l : ∀ k, (∀ y0 y1 y2, LeO (Sp_int_106.l0 k y0 y1 y2) (Sp_int_106.l0 (k + 1) y0 y1 y2))
  | 0 => fun _ _ _ r h => by simp [Sp_int_106.l0] at h
  | k + 1 => by
    have ih0 := Sp_int_106.mono_l k
    · intro y0 y1 y2
      unfold Sp_int_106.l0
      repeat' first
      | (with_reducible exact ih0 _ _ _)
      | (with_reducible exact LeO.refl _)
      | (with_reducible exact LeO.none _)
      | (with_reducible refine LeO.ite ?_ ?_)
      | (with_reducible refine LeO.bind ?_ (fun _ => ?_))
      | exact ih0 _ _ _
      | exact LeO.none _
      | refine LeO.ite ?_ ?_
      | refine LeO.bind ?_ (fun _ => ?_)
theorem Sp_int_106.mono : ∀ a0 k, LeO (Sp_int_106.f k a0) (Sp_int_106.f (k + 1) a0) := by
  intro a0 k
  have ih0 := Sp_int_106.mono_l k
  unfold Sp_int_106.f
  repeat' first
      | (with_reducible exact ih0 _ _ _)
      | (with_reducible exact LeO.refl _)
      | (with_reducible exact LeO.none _)
      | (with_reducible refine LeO.ite ?_ ?_)
      | (with_reducible refine LeO.bind ?_ (fun _ => ?_))
      | exact ih0 _ _ _
      | exact LeO.none _
      | refine LeO.ite ?_ ?_
      | refine LeO.bind ?_ (fun _ => ?_)
theorem Sp_int_106.calls (k : Nat) (A0 : Option Addr) (c0 : Nat) (l0 : List Int) (r : Int) (w : World) (hr0 : Kd.C (Kd.int .i64) w A0 l0.length l0) (hc0 : l0.length ≤ c0) (h : Sp_int_106.f k l0 = some r) :
    Calls Tryd.prog 106 #[.slice A0 l0.length c0] w fun e w' => e = .returned (.int .i64 r) ∧ Below w.heap.size w w' := by
  have HR0 := m0 hr0
  have HC0 := m0 hc0
  clear hr0 hc0
  have HB := m0 (Below.refl w.heap.size w)
  have H : (if (l0.length : Int) < 1 then (none) else (if 0 < (l0.length : Int) then (Sp_int_106.l0 k l0 (rd l0 0) 1) else (none))) = some r := h
  clear h
  by_cases c2 : (l0.length : Int) < 1
  · rw [if_pos c2] at H
    exact absurd H (by simp)
  · rw [if_neg c2] at H
    have c2b0 := decide_eq_false c2
    have c2b1 : decide (l0.length < 1) = false := decide_eq_false (by omega)
    clear c2
    by_cases c3 : 0 < (l0.length : Int)
    · rw [if_pos c3] at H
      have c3b0 := decide_eq_true c3
      have c3b1 : decide (0 < l0.length) = true := decide_eq_true (by omega)
      clear c3
      have H' := m0 H
      clear H
      have p144 : 0 ≤ (0 : Int) := (by omega)
      have q144 : 0 < (l0.length : Int) := of_decide_eq_true (by first | (with_reducible assumption) | assumption)
      obtain ⟨ad144, e144, hx144_0⟩ := Kd.at_int HR0.out 0 p144 q144
      cases e144
      have qi144 : (0 < l0.length) = True := eq_true (by omega)
      (try rw [show ((0 : Int)).toNat = 0 from rfl] at hx144_0)
      (try rw [Addr.add_zero'] at hx144_0)
      replace p144 := eq_true p144
      replace q144 := eq_true q144
      go_enter Tryd.func106, Tryd.ntmps106
      go_wp2
      go_loopg [3, 4] k (fun kq v3 v4 w' => ∃ (x3_1 : Int) (x4_1 : Int), v3 = .int .i64 x3_1 ∧ v4 = .int .i64 x4_1 ∧ Aside0 (Sp_int_106.l0 kq l0 x3_1 x4_1 = some r) ∧ Aside0 (kq ≤ k) ∧ Aside0 (Below w.heap.size w w'))
      case atStart => exact ⟨(rd l0 0), (1), (by first | rfl | (simp; done) | (simp [*]; done)), (by first | rfl | (simp; done) | (simp [*]; done)), H', ⟨Nat.le_refl _⟩, ⟨bz⟩⟩
      case round =>
        clear H'
        try clear c1
        try clear p1
        try clear q1
        try clear hx1
        try clear qi1
        try clear c2
        try clear c2b0
        try clear c2b1
        try clear p2
        try clear c3
        try clear c3b0
        try clear c3b1
        try clear hx144_0
        try clear p144
        try clear q144
        obtain ⟨x3_1, x4_1, rfl, rfl, HA, HK1, HB⟩ := hrel
        cases gk with
        | zero => exact absurd HA.out (by simp [Sp_int_106.l0])
        | succ k1 =>
          have H := HA.out
          clear HA
          simp only [Sp_int_106.l0] at H
          by_cases c4 : x4_1 < (l0.length : Int)
          · rw [if_pos c4] at H
            have c4b0 := decide_eq_true c4
            clear c4
            by_cases c5 : 0 ≤ x4_1
            · rw [if_pos c5] at H
              have c5b0 := decide_eq_true c5
              clear c5
              obtain ⟨ji6, hji6⟩ : ∃ j_ : Int, (mx x3_1 (rd l0 x4_1)) = j_ := ⟨_, rfl⟩
              replace H : (Sp_int_106.l0 k1 l0 ji6 (wrap64 (x4_1 + 1))) = some r := by first | (rw [hji6] at H; exact H) | (simp only [hji6] at H ⊢; exact H)
              have hji6_ : (if x3_1 < (rd l0 x4_1) then (rd l0 x4_1) else x3_1) = ji6 := hji6
              have H' := m0 H
              clear H
              have p145 : 0 ≤ (x4_1 : Int) := of_decide_eq_true (by first | (with_reducible assumption) | assumption)
              have q145 : x4_1 < (l0.length : Int) := of_decide_eq_true (by first | (with_reducible assumption) | assumption)
              obtain ⟨ad145, e145, hx145_0⟩ := Kd.at_int HR0.out x4_1 p145 q145
              obtain rfl : ad144 = ad145 := (by injection e145)
              replace hx145_0 := (HB.out.cell (World.block_lt_of_cell? w _ hx145_0)).trans hx145_0
              replace p145 := eq_true p145
              replace q145 := eq_true q145
              go_wp2
              go_roundg k1
              case measure => have := HK1.out; omega
              case rel => exact ⟨(ji6), (wrap64 (x4_1 + 1)), (by first | rfl | (simp; done) | (simp only [← hji6] <;> (first | rfl | simp)) | (simp [*]; done)), (by first | rfl | (simp; done) | (simp [*]; done)), H', ⟨by have := HK1.out; omega⟩, ⟨bz⟩⟩
            · rw [if_neg c5] at H
              exact absurd H (by simp)
          · rw [if_neg c4] at H
            have c4b0 := decide_eq_false c4
            clear c4
            obtain rfl := Option.some.inj H
            go_wp2
            go_ret
            exact ez
    · rw [if_neg c3] at H
      exact absurd H (by simp)
end
section
theorem slices_IndexFunc_int_int.own (g : Nat) (lb : Array Value) (eg : ∀ args w, (callFunc g args).run Tryd.prog w = .ok (.enter g args) w) (p : Int → Bool) (A0 : Option Addr) (c0 : Nat) (l0 : List Int) (w : World) (hp : PredI g lb p w) (hr0 : Kd.C (Kd.int .i64) w A0 l0.length l0) :
  Calls Tryd.prog 141 #[.slice A0 l0.length c0, .func (.func g) #[] lb] w fun e w' => e = .returned (.int .i64 (idxF p l0)) ∧ Drawn0 w w' := by
 have HR0 := m0 hr0
 have HL := m0 (show (l0.length : Int) ≤ 9223372036854775807 from by have := hr0.2.1; omega)
 clear hr0
 have hpAt : ∀ (x : Int) (q : Nat), Calls Tryd.prog g (#[.int .i64 x] ++ lb) (w.drewN q) fun e w' => e = .returned (.bool (p x)) ∧ ∃ q', w' = (w.drewN q).drewN q' := fun x q => hp _ x (pw_below_drewN (Below.refl _ w) q)
 have HP := m0 hpAt
 clear hpAt hp
 go_enter Tryd.func141, Tryd.ntmps141
 go_wp2
 go_loopg [5, 8] l0.length (fun gg _ s8 wr => ∃ x : Int, s8 = .int .i64 x ∧ Aside0 (0 ≤ x ∧ x ≤ l0.length ∧ (l0.length : Int) - x ≤ gg ∧ ∀ j : Nat, (j : Int) < x → p (rd l0 j) = false) ∧ Drawn0 w wr)
 case atStart => exact ⟨0, rfl, ⟨by omega, by omega, by omega, fun j hj => by omega⟩, Drawn0.refl _⟩
 case round =>
  obtain ⟨x, rfl, HA, ⟨q, rfl⟩⟩ := hrel
  by_cases hlt : x < (l0.length : Int)
  ·obtain ⟨ad, e, hx⟩ := Kd.at_int HR0.out x HA.out.1 hlt
   cases e
   have c1 : decide (x < (l0.length : Int)) = true := decide_eq_true hlt
   have p1 := eq_true HA.out.1
   have q1 := eq_true hlt
   clear hlt
   have hcall := HP.out (rd l0 x)
   cases hq : p (rd l0 x) with
   | true =>
    rw [hq] at hcall
    have HQ := m0 hq
    have HC := m0 hcall
    clear hq hcall
    go_wp2_with (go_at_fn g; refine (HC.out _).mono ?_; rintro e w' ⟨rfl, q', rfl⟩)
    go_ret
    refine ⟨?_, ⟨⟨_, rfl⟩⟩⟩
    obtain ⟨h0, h1, h2, h3⟩ := HA.out
    have hc := of_decide_eq_true c1
    have hn : ((x.toNat : Nat) : Int) = x := by omega
    exact ret_int (by rw [idxF_hit p l0 x.toNat (by omega) (by rw [hn]; exact HQ.out) (fun j hj => h3 j (by omega)), hn])
   | false =>
    rw [hq] at hcall
    have HQ := m0 hq
    have HC := m0 hcall
    clear hq hcall
    go_wp2_with (go_at_fn g; refine (HC.out _).mono ?_; rintro e w' ⟨rfl, q', rfl⟩)
    obtain ⟨h0, h1, h2, h3⟩ := HA.out
    have hc := of_decide_eq_true c1
    have hL := HL.out
    go_roundg (l0.length - (x + 1)).toNat
    case measure => omega
    case rel =>
     refine ⟨wrap64 (x + 1), rfl, ⟨?_⟩, ⟨⟨_, rfl⟩⟩⟩
     have e1 : wrap64 (x + 1) = x + 1 := by unfold wrap64; omega
     rw [e1]
     refine ⟨by omega, by omega, by omega, fun j hj => ?_⟩
     by_cases e : (j : Int) = x
     ·rw [e]; exact HQ.out
     ·exact h3 j (by omega)
  ·have c1 : decide (x < (l0.length : Int)) = false := decide_eq_false hlt
   have HN := m0 hlt
   clear hlt
   go_wp2
   go_ret
   refine ⟨?_, ⟨⟨q, rfl⟩⟩⟩
   obtain ⟨h0, h1, h2, h3⟩ := HA.out
   have := HN.out
   exact ret_int (idxF_miss p l0 (fun j hj => h3 j (by omega))).symm
end
section
def line_listErr.f (l0 : List Int) (a1 a2 : Int) : Option (Int × Int) :=
 if l0.length = 0 then some (0, 10) else if a1 < l0.length then some (0, 8) else
  if idxF (fun x => !(decide (0 ≤ x) && decide (x ≤ a2))) l0 ≥ 0 then some (idxF (fun x => !(decide (0 ≤ x) && decide (x ≤ a2))) l0, 2) else some (0, 0)
theorem C_two {w : World} {b : Nat} {x y : Int} (h0 : w.cell? ⟨b, 0, none⟩ = some (.int .i64 x)) (h1 : w.cell? ⟨b, 1, none⟩ = some (.int .i64 y)) : Kd.C (Kd.int .i64) w (some ⟨b, 0, none⟩) [x, y].length [x, y] := by
 refine ⟨rfl, by simp, fun _ => ⟨_, rfl, ?_⟩⟩
 intro j p hp
 match j, hp with
 | 0, hp => exact ⟨[.int .i64 x], rfl, by cases hp; rfl, fun i u hu => by match i, hu with | 0, hu => cases hu; show w.cell? ((⟨b, 0, none⟩ : Addr).add 0) = _; rw [add_plain]; exact h0 | (k + 1), hu => simp at hu⟩
 | 1, hp => exact ⟨[.int .i64 y], rfl, by cases hp; rfl, fun i u hu => by match i, hu with | 0, hu => cases hu; show w.cell? ((⟨b, 0, none⟩ : Addr).add 1) = _; rw [add_plain]; exact h1 | (k + 1), hu => simp at hu⟩
 | (k + 2), hp => simp at hp
theorem first_two (x y : Int) : line_first.f 4 [x, y] = some (if x = 0 then y else x) := by
 by_cases hx : x = 0
 ·by_cases hy : y = 0 <;> simp [line_first.f, line_first.l0, rd, wrap64, hx, hy]
 ·simp [line_first.f, line_first.l0, rd, hx]
theorem first_two_calls {b : Nat} {x y : Int} (w : World) (h0 : w.cell? ⟨b, 0, none⟩ = some (.int .i64 x)) (h1 : w.cell? ⟨b, 1, none⟩ = some (.int .i64 y)) :
  Calls Tryd.prog 91 #[.slice (some ⟨b, 0, none⟩) 2 2] w fun e w' => e = .returned (.int .i64 (if x = 0 then y else x)) ∧ ∃ q, w' = w.drewN q :=
 (line_first.calls 4 (some ⟨b, 0, none⟩) 2 [x, y] _ w (C_two h0 h1) (by simp) (first_two x y)).mono fun _ _ ⟨he, hw⟩ => ⟨he, hw.out⟩
theorem unless_calls (b : Bool) (e : Int) (w : World) : Calls Tryd.prog 93 #[.bool b, .int .i64 e] w fun x w' => x = .returned (.int .i64 (if b = true then 0 else e)) ∧ ∃ q, w' = w.drewN q :=
 (line_unless.calls b e _ w (by cases b <;> rfl)).mono fun _ _ ⟨he, hw⟩ => ⟨he, hw.out⟩
theorem line_listErr.pred {B : Nat} {a2 : Int} {w : World} (hc : w.cell? ⟨B, 0, none⟩ = some (.int .i64 a2)) : PredI 142 #[.pointer (some ⟨B, 0, none⟩)] (fun x => !(decide (0 ≤ x) && decide (x ≤ a2))) w := by
 intro W x hb
 have hc' := pw_cell_below hb hc
 clear hc hb
 by_cases h1 : 0 ≤ x <;> by_cases h2 : x ≤ a2 <;> simp only [h1, h2, decide_true, decide_false, Bool.and_self, Bool.and_false, Bool.false_and, Bool.not_true, Bool.not_false]
 all_goals
  go_enter Tryd.func142, Tryd.ntmps142
  go_wp2
  go_ret
  exact ⟨rfl, 0, rfl⟩
theorem line_listErr.calls (A0 : Option Addr) (c0 : Nat) (l0 : List Int) (a1 a2 : Int) (r1 r2 : Int) (w : World) (hr0 : Kd.C (Kd.int .i64) w A0 l0.length l0) (hc0 : l0.length ≤ c0) (h : line_listErr.f l0 a1 a2 = some (r1, r2)) :
  Calls Tryd.prog 120 #[.slice A0 l0.length c0, .int .i64 a1, .int .i64 a2] w fun e w' => e = .returned (.tuple #[.int .i64 r1, .int .i64 r2]) ∧ Below w.heap.size w w' := by
 have HR0 := m0 hr0
 clear hr0 hc0
 have i150 : Tryd.prog.cellsOf 3 = 1 := by kernel_rfl
 by_cases h0 : l0.length = 0
 ·have t1 : decide ((0 : Int) < (l0.length : Int)) = false := decide_eq_false (by omega)
  have t2 : decide (0 < l0.length) = false := decide_eq_false (by omega)
  simp only [line_listErr.f, h0, if_pos] at h
  obtain ⟨rfl, rfl⟩ := h
  clear h0
  cases h3 : decide ((l0.length : Int) ≤ a1)
  ·go_enter Tryd.func120, Tryd.ntmps120
   go_wp2_with (first | (go_at_call 93; refine (unless_calls _ _ _).mono ?_; rintro e w' ⟨rfl, q, rfl⟩) | (go_at_call 91; refine (first_two_calls (x := 10) (y := 8) _ (by go_simp) (by go_simp)).mono ?_; rintro e w' ⟨rfl, q, rfl⟩))
   go_ret2
   exact ⟨rfl, by repeat (first | exact Below.refl _ _ | apply below_alloc | apply pw_below_drewN | apply below_drew)⟩
  ·go_enter Tryd.func120, Tryd.ntmps120
   go_wp2_with (first | (go_at_call 93; refine (unless_calls _ _ _).mono ?_; rintro e w' ⟨rfl, q, rfl⟩) | (go_at_call 91; refine (first_two_calls (x := 10) (y := 0) _ (by go_simp) (by go_simp)).mono ?_; rintro e w' ⟨rfl, q, rfl⟩))
   go_ret2
   exact ⟨rfl, by repeat (first | exact Below.refl _ _ | apply below_alloc | apply pw_below_drewN | apply below_drew)⟩
 ·have t1 : decide ((0 : Int) < (l0.length : Int)) = true := decide_eq_true (by omega)
  have t2 : decide (0 < l0.length) = true := decide_eq_true (by omega)
  simp only [line_listErr.f, h0, if_neg, not_false_eq_true] at h
  by_cases h3 : a1 < l0.length
  ·rw [if_pos h3] at h
   obtain ⟨rfl, rfl⟩ := h
   have t3 : decide ((l0.length : Int) ≤ a1) = false := decide_eq_false (by omega)
   clear h0 h3
   go_enter Tryd.func120, Tryd.ntmps120
   go_wp2_with (first | (go_at_call 93; refine (unless_calls _ _ _).mono ?_; rintro e w' ⟨rfl, q, rfl⟩) | (go_at_call 91; refine (first_two_calls (x := 0) (y := 8) _ (by go_simp) (by go_simp)).mono ?_; rintro e w' ⟨rfl, q, rfl⟩))
   go_ret2
   exact ⟨rfl, by repeat (first | exact Below.refl _ _ | apply below_alloc | apply pw_below_drewN | apply below_drew)⟩
  ·rw [if_neg h3] at h
   have t3 : decide ((l0.length : Int) ≤ a1) = true := decide_eq_true (by omega)
   clear h0 h3
   generalize hI : idxF (fun x => !(decide (0 ≤ x) && decide (x ≤ a2))) l0 = I at h
   have hcall : ∀ W : World, W.cell? ⟨w.heap.size, 0, none⟩ = some (.int .i64 a2) → Below w.heap.size w W → Calls Tryd.prog 141 #[.slice A0 l0.length c0, .func (.func 142) #[] #[.pointer (some ⟨w.heap.size, 0, none⟩)]] W fun e w' => e = .returned (.int .i64 I) ∧ ∃ q, w' = W.drewN q := fun W hc hb => by
    rw [← hI]
    exact (slices_IndexFunc_int_int.own _ _ (enters_of Tryd.func142 (by kernel_rfl) rfl) _ A0 c0 l0 W (line_listErr.pred hc) (Kd.C_below HR0.out hb)).mono fun _ _ ⟨he, hw⟩ => ⟨he, hw.out⟩
   have HC := m0 hcall
   clear hcall hI
   by_cases h4 : I ≥ 0
   ·rw [if_pos h4] at h
    simp only [Option.some.injEq, Prod.mk.injEq] at h
    obtain ⟨h5, rfl⟩ := h
    subst h5
    have t4 : decide (0 ≤ I) = true := decide_eq_true h4
    clear h4
    go_enter Tryd.func120, Tryd.ntmps120
    go_wp2_with (first | (go_at_call 93; refine (unless_calls _ _ _).mono ?_; rintro e w' ⟨rfl, q, rfl⟩) | (go_at_call 91; refine (first_two_calls (x := 0) (y := 0) _ (by go_simp) (by go_simp)).mono ?_; rintro e w' ⟨rfl, q, rfl⟩) | (go_at_call 141; refine (HC.out _ (by go_simp) (by repeat (first | exact Below.refl _ _ | apply below_alloc | apply pw_below_drewN | apply below_drew))).mono ?_; rintro e w' ⟨rfl, q, rfl⟩))
    go_ret2
    exact ⟨rfl, by repeat (first | exact Below.refl _ _ | apply below_alloc | apply pw_below_drewN | apply below_drew)⟩
   ·rw [if_neg h4] at h
    obtain ⟨rfl, rfl⟩ := h
    have t4 : decide (0 ≤ I) = false := decide_eq_false h4
    clear h4
    go_enter Tryd.func120, Tryd.ntmps120
    go_wp2_with (first | (go_at_call 93; refine (unless_calls _ _ _).mono ?_; rintro e w' ⟨rfl, q, rfl⟩) | (go_at_call 91; refine (first_two_calls (x := 0) (y := 0) _ (by go_simp) (by go_simp)).mono ?_; rintro e w' ⟨rfl, q, rfl⟩) | (go_at_call 141; refine (HC.out _ (by go_simp) (by repeat (first | exact Below.refl _ _ | apply below_alloc | apply pw_below_drewN | apply below_drew))).mono ?_; rintro e w' ⟨rfl, q, rfl⟩))
    go_ret2
    exact ⟨rfl, by repeat (first | exact Below.refl _ _ | apply below_alloc | apply pw_below_drewN | apply below_drew)⟩
end
section
def line_CheckSpectrum.f (l0 : List Int) : Option (Int × Int) := (line_listErr.f l0 16 10000).bind fun bt105 => (some (bt105.1, bt105.2))
theorem line_CheckSpectrum.calls (A0 : Option Addr) (c0 : Nat) (l0 : List Int) (r1 : Int) (r2 : Int) (w : World) (hr0 : Kd.C (Kd.int .i64) w A0 l0.length l0) (hc0 : l0.length ≤ c0) (h : line_CheckSpectrum.f l0 = some (r1, r2)) :
  Calls Tryd.prog 75 #[.slice A0 l0.length c0] w fun e w' => e = .returned (.tuple #[.int .i64 r1, .int .i64 r2]) ∧ Below w.heap.size w w' := by
 have HR0 := m0 hr0
 have HC0 := m0 hc0
 clear hr0 hc0
 have HB := m0 (Below.refl w.heap.size w)
 have H : ((line_listErr.f l0 16 10000).bind fun bt105 => (some (bt105.1, bt105.2))) = some (r1, r2) := h
 clear h
 replace H := ob H
 obtain ⟨⟨t105, t106⟩, A20, H⟩ := H
 (try dsimp only at H)
 have A2 := m0 A20
 clear A20
 simp only [Option.some.injEq, Prod.mk.injEq] at H
 obtain ⟨rfl, rfl⟩ := H
 go_enter Tryd.func75, Tryd.ntmps75
 go_wp2_with (first | ((with_reducible refine gate_callee (f := 120) rfl ?_); refine gl (some 5) Tryd.func120 #[.slice A0 l0.length c0, .int .i64 16, .int .i64 10000] ?_; (with_reducible refine (line_listErr.calls _ _ l0 16 10000 t105 t106 _ ?side1 ?side2 A2.out).mono ?_); (case side1 => repeat (first | exact HR0.out | (with_reducible refine Kd.C_alloc ?_ _) | (with_reducible refine Kd.C_drewN ?_ _) | (with_reducible refine Kd.C_drew ?_))); (case side2 => exact HC0.out); rintro e w3 ⟨rfl, hb⟩; refine ⟨_, rfl, ?_⟩; replace HB := sb HB hb; (try clear hb)))
 go_ret2
 exact ez
end
section
def line_open.f (l0 : List Int) : Option (List Int × Int) := (line_CheckSpectrum.f l0).bind fun bt224 => (some (l0, bt224.2))
theorem line_open.calls (P0_ : Nat → Prop) (A0 : Option Addr) (c0 : Nat) (l0 : List Int) (r1 : List Int) (r2 : Int) (w : World) (hs0 : Kd.V (Kd.int .i64) 3 w w.heap.size (fun k_ => P0_ k_) (.slice A0 l0.length c0) l0) (h : line_open.f l0 = some (r1, r2)) :
  Calls Tryd.prog 102 #[.slice A0 l0.length c0] w fun e w' => ∃ v0_ : Value, e = .returned (.tuple #[v0_, .int .i64 r2]) ∧ Kd.V (Kd.int .i64) 3 w' w.heap.size (fun k_ => (P0_ k_ ∨ w.heap.size ≤ k_)) v0_ r1 ∧ Below w.heap.size w w' := by
 have HO0 := m0 (show Kd.V (Kd.int .i64) 3 w w.heap.size (fun k_ => (P0_ k_ ∨ w.heap.size ≤ k_)) (.slice A0 l0.length c0) l0 from Kd.V_mono hs0 (fun k_ hk => .inl hk))
 have HB := m0 (Below.refl w.heap.size w)
 have H : ((line_CheckSpectrum.f l0).bind fun bt224 => (some (l0, bt224.2))) = some (r1, r2) := h
 clear h
 replace H := ob H
 obtain ⟨⟨t224, t225⟩, A20, H⟩ := H
 (try dsimp only at H)
 have A2 := m0 A20
 clear A20
 simp only [Option.some.injEq, Prod.mk.injEq] at H
 obtain ⟨rfl, rfl⟩ := H
 go_enter Tryd.func102, Tryd.ntmps102
 go_wp2_with (first | ((with_reducible refine gate_callee (f := 75) rfl ?_); refine gl (some 8) Tryd.func75 #[.slice A0 l0.length c0] ?_; (with_reducible refine (line_CheckSpectrum.calls _ _ l0 t224 t225 _ ?side1 ?side2 A2.out).mono ?_); (case side1 => repeat (first | exact (Kd.V_reads' HO0.out).2.2 | (with_reducible refine Kd.C_alloc ?_ _) | (with_reducible refine Kd.C_drewN ?_ _) | (with_reducible refine Kd.C_drew ?_))); (case side2 => exact (Kd.V_reads' HO0.out).2.1); rintro e w3 ⟨rfl, hb⟩; refine ⟨_, rfl, ?_⟩; replace HO0 := m0 (Kd.V_below (by (with_reducible repeat (first | apply Kd.V_alloc | apply Kd.V_drewN | apply Kd.V_drew)); exact HO0.out) hb); replace HB := sb HB hb; (try clear hb)))
 go_ret2
 exact ⟨_, by first | rfl | (simp [errW_none, errW_some] <;> rfl) | (simp [*, errW_none, errW_some] <;> rfl), by (with_reducible repeat (first | apply Kd.V_alloc | apply Kd.V_drewN | apply Kd.V_drew)); exact HO0.out, by repeat (first | (with_reducible first | exact HB.out | apply below_alloc | apply pw_below_drewN | apply below_drew1) | exact HB.out)⟩
end
section
def line_thresholdErr.f (a0 : Int) : Option (Int) := (line_within.f a0 0 11000).bind fun t242 => ((line_unless.f t242 2).bind fun t243 => (some t243))
theorem line_thresholdErr.calls (a0 : Int) (r : Int) (w : World) (h : line_thresholdErr.f a0 = some r) :
  Calls Tryd.prog 100 #[.int .i64 a0] w fun e w' => e = .returned (.int .i64 r) ∧ Drawn0 w w' := by
 have H : ((line_within.f a0 0 11000).bind fun t242 => ((line_unless.f t242 2).bind fun t243 => (some t243))) = some r := h
 clear h
 replace H := ob H
 obtain ⟨t242, A20, H⟩ := H
 (try dsimp only at H)
 have A2 := m0 A20
 clear A20
 replace H := ob H
 obtain ⟨t243, A30, H⟩ := H
 (try dsimp only at H)
 have A3 := m0 A30
 clear A30
 obtain rfl := Option.some.inj H
 go_enter Tryd.func100, Tryd.ntmps100
 go_wp2_with (first | ((with_reducible refine gate_callee (f := 105) rfl ?_); refine gl (some 4) Tryd.func105 #[.int .i64 a0, .int .i64 0, .int .i64 11000] ?_; (with_reducible refine (line_within.calls a0 0 11000 t242 _ A2.out).mono ?_); rintro e w' ⟨rfl, ⟨nd, rfl⟩⟩; refine ⟨_, rfl, ?_⟩) | ((with_reducible refine gate_callee (f := 93) rfl ?_); refine gl (some 5) Tryd.func93 #[.bool t242, .int .i64 2] ?_; (with_reducible refine (line_unless.calls t242 2 t243 _ A3.out).mono ?_); rintro e w' ⟨rfl, ⟨nd, rfl⟩⟩; refine ⟨_, rfl, ?_⟩))
 go_ret
 exact ⟨by first | rfl | (simp; done) | (simp [*]; done), by repeat (first | exact Drawn0.refl _ | apply Drawn0.step)⟩
end
section
theorem Sp_int_133.own (g : Nat) (lb : Array Value) (eg : ∀ args w, (callFunc g args).run Tryd.prog w = .ok (.enter g args) w) (p : Int → Bool) (A0 : Option Addr) (c0 : Nat) (l0 : List Int) (w : World) (hp : PredI g lb p w) (hr0 : Kd.C (Kd.int .i64) w A0 l0.length l0) :
  Calls Tryd.prog 133 #[.slice A0 l0.length c0, .func (.func g) #[] lb] w fun e w' => e = .returned (.int .i64 (idxF p l0)) ∧ Drawn0 w w' := by
 have HR0 := m0 hr0
 have HL := m0 (show (l0.length : Int) ≤ 9223372036854775807 from by have := hr0.2.1; omega)
 clear hr0
 have hpAt : ∀ (x : Int) (q : Nat), Calls Tryd.prog g (#[.int .i64 x] ++ lb) (w.drewN q) fun e w' => e = .returned (.bool (p x)) ∧ ∃ q', w' = (w.drewN q).drewN q' := fun x q => hp _ x (pw_below_drewN (Below.refl _ w) q)
 have HP := m0 hpAt
 clear hpAt hp
 go_enter Tryd.func133, Tryd.ntmps133
 go_wp2
 go_loopg [5, 8] l0.length (fun gg _ s8 wr => ∃ x : Int, s8 = .int .i64 x ∧ Aside0 (0 ≤ x ∧ x ≤ l0.length ∧ (l0.length : Int) - x ≤ gg ∧ ∀ j : Nat, (j : Int) < x → p (rd l0 j) = false) ∧ Drawn0 w wr)
 case atStart => exact ⟨0, rfl, ⟨by omega, by omega, by omega, fun j hj => by omega⟩, Drawn0.refl _⟩
 case round =>
  obtain ⟨x, rfl, HA, ⟨q, rfl⟩⟩ := hrel
  by_cases hlt : x < (l0.length : Int)
  ·obtain ⟨ad, e, hx⟩ := Kd.at_int HR0.out x HA.out.1 hlt
   cases e
   have c1 : decide (x < (l0.length : Int)) = true := decide_eq_true hlt
   have p1 := eq_true HA.out.1
   have q1 := eq_true hlt
   clear hlt
   have hcall := HP.out (rd l0 x)
   cases hq : p (rd l0 x) with
   | true =>
    rw [hq] at hcall
    have HQ := m0 hq
    have HC := m0 hcall
    clear hq hcall
    go_wp2_with (go_at_fn g; refine (HC.out _).mono ?_; rintro e w' ⟨rfl, q', rfl⟩)
    go_ret
    refine ⟨?_, ⟨⟨_, rfl⟩⟩⟩
    obtain ⟨h0, h1, h2, h3⟩ := HA.out
    have hc := of_decide_eq_true c1
    have hn : ((x.toNat : Nat) : Int) = x := by omega
    exact ret_int (by rw [idxF_hit p l0 x.toNat (by omega) (by rw [hn]; exact HQ.out) (fun j hj => h3 j (by omega)), hn])
   | false =>
    rw [hq] at hcall
    have HQ := m0 hq
    have HC := m0 hcall
    clear hq hcall
    go_wp2_with (go_at_fn g; refine (HC.out _).mono ?_; rintro e w' ⟨rfl, q', rfl⟩)
    obtain ⟨h0, h1, h2, h3⟩ := HA.out
    have hc := of_decide_eq_true c1
    have hL := HL.out
    go_roundg (l0.length - (x + 1)).toNat
    case measure => omega
    case rel =>
     refine ⟨wrap64 (x + 1), rfl, ⟨?_⟩, ⟨⟨_, rfl⟩⟩⟩
     have e1 : wrap64 (x + 1) = x + 1 := by unfold wrap64; omega
     rw [e1]
     refine ⟨by omega, by omega, by omega, fun j hj => ?_⟩
     by_cases e : (j : Int) = x
     ·rw [e]; exact HQ.out
     ·exact h3 j (by omega)
  ·have c1 : decide (x < (l0.length : Int)) = false := decide_eq_false hlt
   have HN := m0 hlt
   clear hlt
   go_wp2
   go_ret
   refine ⟨?_, ⟨⟨q, rfl⟩⟩⟩
   obtain ⟨h0, h1, h2, h3⟩ := HA.out
   have := HN.out
   exact ret_int (idxF_miss p l0 (fun j hj => h3 j (by omega))).symm
end
section
theorem Sp_int_107.own (g : Nat) (lb : Array Value) (eg : ∀ args w, (callFunc g args).run Tryd.prog w = .ok (.enter g args) w) (p : Int → Bool) (A0 : Option Addr) (c0 : Nat) (l0 : List Int) (w : World) (hp : PredI g lb p w) (hr0 : Kd.C (Kd.int .i64) w A0 l0.length l0) :
  Calls Tryd.prog 107 #[.slice A0 l0.length c0, .func (.func g) #[] lb] w fun e w' => e = .returned (.bool (l0.any p)) ∧ Drawn0 w w' := by
 have HC := m0 ((Sp_int_133.own g lb eg p A0 c0 l0 w hp hr0).mono fun e w' h => (⟨h.1, h.2.out⟩ : e = .returned (.int .i64 (idxF p l0)) ∧ ∃ q, w' = w.drewN q))
 rw [← idxF_any]
 clear hp hr0
 go_enter Tryd.func107, Tryd.ntmps107
 go_wp2_with (first | (go_at_call 133; refine HC.out.mono ?_; rintro e w' ⟨rfl, q, rfl⟩))
 go_ret
 exact ⟨rfl, ⟨⟨q, rfl⟩⟩⟩
theorem detections_pred {B : Nat} {n : Int} {w : World} (hc : w.cell? ⟨B, 0, none⟩ = some (.int .i64 n)) : PredI 108 #[.pointer (some ⟨B, 0, none⟩)] (fun m => decide (n ≤ m)) w := by
 intro W x hb
 have hc' := pw_cell_below hb hc
 clear hc hb
 go_enter Tryd.func108, Tryd.ntmps108
 go_wp2
 go_ret
 exact ⟨rfl, 0, rfl⟩
def line_ContainsFunc_ge.f (l0 : List Int) (n : Int) : Option Bool := some (l0.any fun m => decide (n ≤ m))
theorem line_ContainsFunc_ge.calls (A0 : Option Addr) (c0 : Nat) (l0 : List Int) (B : Nat) (n : Int) (r : Bool) (w : World) (hr0 : Kd.C (Kd.int .i64) w A0 l0.length l0) (hc0 : l0.length ≤ c0) (hb : w.heap[B]? = some (.cells #[.int .i64 n] 3 (0, 0))) (h : line_ContainsFunc_ge.f l0 n = some r) :
  Calls Tryd.prog 107 #[.slice A0 l0.length c0, .func (.func 108) #[] #[.pointer (some ⟨B, 0, none⟩)]] w fun e w' => e = .returned (.bool r) ∧ Drawn0 w w' := by
 obtain rfl := Option.some.inj h
 exact Sp_int_107.own _ _ (enters_of Tryd.func108 (by kernel_rfl) rfl) _ A0 c0 l0 w (detections_pred ((blk_cell hb 0).trans rfl)) hr0
end
end Go.Proofs.YtjnkphmcndaijaaDoor.A
