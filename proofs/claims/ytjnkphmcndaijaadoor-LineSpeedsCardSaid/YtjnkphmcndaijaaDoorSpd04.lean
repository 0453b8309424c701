/- Walks of the program's functions (printed, made shorter), each with what it computes. -/
import Derived.Test.YtjnkphmcndaijaaDoorProg
import Derived.Below
import Derived.Deep.Draws
import Derived.Deep.AppendLies
import Derived.Maps.AppendAt
import Derived.OwnWalk
import Derived.Laws.BytesArg
import Derived.Laws.MakeOwn
import Derived.Laws.OwnMore
import Derived.Deep.OwnRows
import Derived.Tactics
import Derived.Lib.ConvBytes
import Derived.Laws.Slices
import Derived.WalkKit
import Derived.KernelRfl
import Derived.RowKit3
import Derived.Deep.LoopGhost
import Derived.Deep.QuietTactic
import Derived.BigQuiet
import Derived.WideLaws
import Derived.Deep.DeepCutAuto
import Derived.Deep.CutBlock
import Derived.Deep.RegionHeld3
import Derived.Laws.Rows
import Derived.Lib.AppendStr
import Derived.ArgAppend
import Derived.Laws.IdiomCopy
import Derived.OrdersHeld
import Derived.Laws.BitsLemmas
import Derived.RowKit
import Derived.RangeFuncLeaves
import Derived.RangeFuncOwn
import Derived.Test.YtjnkphmcndaijaaDoorSpd01
import Derived.Test.YtjnkphmcndaijaaDoorSpd02
import Derived.Test.YtjnkphmcndaijaaDoorSpd03
import Derived.Shelf.Abstract
namespace Go.Proofs.YtjnkphmcndaijaaDoor.A
set_option maxHeartbeats 8000000
set_option maxRecDepth 100000
open Go.RowKit Go.Proofs.YtjnkphmcndaijaaDoorW.PrintWords Go.Proofs.YtjnkphmcndaijaaDoorW.PrintLast Go.Proofs.YtjnkphmcndaijaaDoorW.PrintMore
attribute [local go_sem] max2_int min2_int max_two min_two max_three min_three max_four min_four
set_option linter.unusedVariables false
set_option linter.unusedSimpArgs false
section
def errW : Option Int → Value
  | none => .nilIface
  | some c => .iface 0 (.int .i64 c)
theorem errW_none : errW none = .nilIface := rfl
theorem errW_some (c : Int) : errW (some c) = .iface 0 (.int .i64 c) := rfl
theorem ret_int {k : IntKind} {a b : Int} (h : a = b) : Ending.returned (.int k a) = Ending.returned (.int k b) := by rw [h]
theorem ret_bool {a b : Bool} (h : a = b) : Ending.returned (.bool a) = Ending.returned (.bool b) := by rw [h]
def PredI (g : Nat) (lb : Array Value) (p : Int → Bool) (w : World) : Prop :=
  ∀ (W : World) (x : Int), Below w.heap.size w W → Calls Tryd.prog g (#[.int .i64 x] ++ lb) W fun e w' => e = .returned (.bool (p x)) ∧ ∃ q, w' = W.drewN q
def idxF (p : Int → Bool) (l : List Int) : Int := match l.findIdx? p with | some i => (i : Int) | none => -1
theorem idxF_hit (p : Int → Bool) (l : List Int) (k : Nat) (h : k < l.length) (hp : p (rd l k) = true) (h0 : ∀ j, j < k → p (rd l j) = false) : idxF p l = k := by
  have : l.findIdx? p = some k := by
    rw [List.findIdx?_eq_some_iff_getElem]
    refine ⟨h, ?_, fun j hj => ?_⟩
    · simpa [rd, List.getD_eq_getElem?_getD, List.getElem?_eq_getElem h] using hp
    · have := h0 j hj
      have hj' : j < l.length := Nat.lt_trans hj h
      simpa [rd, List.getD_eq_getElem?_getD, List.getElem?_eq_getElem hj'] using this
  simp [idxF, this]
theorem idxF_miss (p : Int → Bool) (l : List Int) (h0 : ∀ j, j < l.length → p (rd l j) = false) : idxF p l = -1 := by
  have : l.findIdx? p = none := by
    rw [List.findIdx?_eq_none_iff]
    intro x hx
    obtain ⟨j, hj, rfl⟩ := List.getElem_of_mem hx
    simpa [rd, List.getD_eq_getElem?_getD, List.getElem?_eq_getElem hj] using h0 j hj
  simp [idxF, this]
def EstG (w : World) : Prop := w.cell? ⟨0, 0, none⟩ = some (.func (.func 192) #[] #[]) ∧ w.cell? ⟨0, 1, none⟩ = some (.func (.func 193) #[] #[]) ∧ w.cell? ⟨0, 2, none⟩ = some (.func (.func 194) #[] #[]) ∧ w.cell? ⟨0, 3, none⟩ = some (.func (.func 195) #[] #[])
theorem EstG.below {w w' : World} (h : EstG w) (hb : Below w.heap.size w w') : EstG w' :=
  ⟨pw_cell_below hb h.1, pw_cell_below hb h.2.1, pw_cell_below hb h.2.2.1, pw_cell_below hb h.2.2.2⟩
def iterN {σ : Type} (step : Nat → σ → Option σ) : Nat → σ → Option σ
  | 0, s => some s
  | N + 1, s => (iterN step N s).bind (step N)
theorem iterN_mono {σ : Type} {f g : Nat → σ → Option σ} (h : ∀ j s, LeO (f j s) (g j s)) (N : Nat) (s : σ) : LeO (iterN f N s) (iterN g N s) := by
  induction N with
  | zero => exact LeO.refl _
  | succ N ih => exact LeO.bind ih (fun x => h N x)
theorem iterN_pre {σ : Type} {f : Nat → σ → Option σ} {N k : Nat} {s r : σ} (h : iterN f N s = some r) (hk : k ≤ N) : ∃ q, iterN f k s = some q := by
  induction N generalizing r with
  | zero => obtain rfl : k = 0 := by omega
            exact ⟨_, h⟩
  | succ N ih =>
    obtain ⟨q, hq, _⟩ := Option.bind_eq_some_iff.mp h
    by_cases e : k = N + 1
    · subst e; exact ⟨_, h⟩
    · exact ih hq (by omega)
theorem iterN_at {σ : Type} {f : Nat → σ → Option σ} {N k : Nat} {s r q : σ} (h : iterN f N s = some r) (hk : k < N) (hq : iterN f k s = some q) : ∃ q', f k q = some q' ∧ iterN f (k + 1) s = some q' := by
  obtain ⟨q', hq'⟩ := iterN_pre h (show k + 1 ≤ N by omega)
  have : (iterN f k s).bind (f k) = some q' := hq'
  rw [hq] at this
  exact ⟨q', this, hq'⟩
theorem C_putObj {k : IntKind} {A : Option Addr} {n l : Nat} {xs : List Int} {W : World} {o o' : Obj} (hl : W.heap[l]? = some o) (ho : o.isCells = false) (h : Kd.C (Kd.int k) W A n xs) : Kd.C (Kd.int k) (W.putObj l o') A n xs := by
  refine ⟨h.1, h.2.1, fun hn => ?_⟩
  obtain ⟨ad, e, hc⟩ := h.2.2 hn
  refine ⟨ad, e, fun j p hp => ?_⟩
  obtain ⟨c, h1, h2, h3⟩ := hc j p hp
  exact ⟨c, h1, h2, fun i u hu => cell_kept (h3 i u hu) (grownBy_putObj' W l o') (fun r e => by cases e; exact ⟨o, hl, ho⟩)⟩
theorem idxF_any (p : Int → Bool) (l : List Int) : decide (0 ≤ idxF p l) = l.any p := by
  unfold idxF
  cases h : l.findIdx? p with
  | none =>
    rw [List.findIdx?_eq_none_iff] at h
    have : l.any p = false := by rw [List.any_eq_false]; exact fun x hx => by simp [h x hx]
    rw [this]; rfl
  | some i =>
    rw [List.findIdx?_eq_some_iff_getElem] at h
    obtain ⟨hi, hp, _⟩ := h
    have : l.any p = true := List.any_eq_true.mpr ⟨_, List.getElem_mem hi, hp⟩
    rw [this]
    simp
def QM (n : Nat) (P : Program) (fn : Func) (R : Ending → World → Prop) : Exit → Act → World → Prop
  | .normal, a, w => bodyPostM Fence.wide n P fn R .normal a w
  | .ret, a, w => bodyPostM Fence.wide n P fn R .ret a w
  | _, _, _ => False
theorem QM.le {n : Nat} {P : Program} {fn : Func} {R : Ending → World → Prop} {e : Exit} {a : Act} {w : World} (h : QM n P fn R e a w) : bodyPostM Fence.wide n P fn R e a w := by
  cases e with
  | normal => exact h
  | ret => exact h
  | _ => exact h.elim
theorem bodyPostM_ret {n : Nat} {P : Program} {fn : Func} {R : Ending → World → Prop} {tmps : Array Value} {w : World} {v : Value} (hr : (results fn tmps).run P w = .ok v w) (_ : ([] : List Deferred) = []) (hR : R (.returned v) w) :
    QM n P fn R .ret { tmps := tmps, defers := [] } w := ⟨v, hr, hR⟩
theorem info3 : (Tryd.prog.info? 3).map (fun i => (i.zero, i.size, i.bytes)) = some (some (.int .i64 0), 1, 8) := by kernel_rfl
theorem info31 : (Tryd.prog.info? 31).map (fun i => (i.zero, i.size, i.bytes)) = some (some (.int .i64 0), 1, 8) := by kernel_rfl
end
section
theorem eqA26 (d : Nat) (w : World) (x0 y0 : Int) (x1 y1 : Int) :
  (Op.equalIn (d + 2) 26 (.agg #[.int .i64 x0, .int .i64 x1]) (.agg #[.int .i64 y0, .int .i64 y1])).run Tryd.prog w = .ok (x0 == y0 && (x1 == y1)) w := by
 refine eqA_of Tryd.underlying26 (by kernel_rfl) ?_
 refine eqf_cons (by rfl) (by go_simp; rfl) (by go_simp; rfl) (by go_simp) ?_
 exact eqf_last (by rfl) (by go_simp; rfl) (by go_simp; rfl) (by go_simp)
end
section
def L_first.l0 : Nat → List Int → Int → Int → Option (Int)
 | 0, _, _, _ => none
 | k + 1, x5, x6, x7 => if x7 < x6 then (if 0 ≤ x7 then (if x7 < (x5.length : Int) then (if (rd x5 x7) = 0 then (L_first.l0 k x5 x6 (wrap64 (x7 + 1))) else (some (rd x5 x7))) else (none)) else (none)) else (some 0)
def L_first.f (k : Nat) (l0 : List Int) : Option (Int) := L_first.l0 k l0 (l0.length : Int) 0
theorem L_first.mono_l : ∀ k, (∀ y0 y1 y2, LeO (L_first.l0 k y0 y1 y2) (L_first.l0 (k + 1) y0 y1 y2))
 | 0 => fun _ _ _ r h => by simp [L_first.l0] at h
 | k + 1 => by
  have ih0 := L_first.mono_l k
  ·intro y0 y1 y2
   unfold L_first.l0
   repeat' with_reducible first
    | exact ih0 ..
    | exact LeO.refl ..
    | exact LeO.none ..
    | refine LeO.ite ?_ ?_
    | refine LeO.bind ?_ (fun _ => ?_)
theorem L_first.mono : ∀ a0 k, LeO (L_first.f k a0) (L_first.f (k + 1) a0) := by
 intro a0 k
 have ih0 := L_first.mono_l k
 unfold L_first.f
 repeat' with_reducible first
  | exact ih0 ..
  | exact LeO.refl ..
  | exact LeO.none ..
  | refine LeO.ite ?_ ?_
  | refine LeO.bind ?_ (fun _ => ?_)
theorem L_first.calls (k : Nat) (A0 : Option Addr) (c0 : Nat) (l0 : List Int) (r : Int) (w : World) (hr0 : Kd.C (Kd.int .i64) w A0 l0.length l0) (hc0 : l0.length ≤ c0) (h : L_first.f k l0 = some r) :
  Calls Tryd.prog 91 #[.slice A0 l0.length c0] w fun e w' => e = .returned (.int .i64 r) ∧ Drawn0 w w' := by
 have HR0 := m0 hr0
 have HC0 := m0 hc0
 clear hr0 hc0
 have H : (L_first.l0 k l0 (l0.length : Int) 0) = some r := h
 clear h
 have H' := m0 H
 clear H
 go_enter Tryd.func91, Tryd.ntmps91
 go_wp2
 go_loopg [7] k (fun kq v7 w' => ∃ (x7_1 : Int), v7 = .int .i64 x7_1 ∧ Aside0 (L_first.l0 kq l0 (l0.length : Int) x7_1 = some r) ∧ Aside0 (kq ≤ k) ∧ Drawn0 w w')
 case atStart => exact ⟨(0), (by first | rfl | (simp; done) | (simp [*]; done)), H', ⟨Nat.le_refl _⟩, by repeat (first | exact Drawn0.refl _ | apply Drawn0.step)⟩
 case round =>
  clear H'
  obtain ⟨x7_1, rfl, HA, HK1, ⟨m1, rfl⟩⟩ := hrel
  cases gk with
  | zero => exact absurd HA.out (by simp [L_first.l0])
  | succ k1 =>
   have H := HA.out
   clear HA
   simp only [L_first.l0] at H
   by_cases c2 : x7_1 < (l0.length : Int)
   ·rw [if_pos c2] at H
    have c2b0 := decide_eq_true c2
    clear c2
    by_cases c3 : 0 ≤ x7_1
    ·rw [if_pos c3] at H
     have c3b0 := decide_eq_true c3
     clear c3
     by_cases c4 : x7_1 < (l0.length : Int)
     ·rw [if_pos c4] at H
      have c4b0 := decide_eq_true c4
      clear c4
      by_cases c5 : (rd l0 x7_1) = 0
      ·rw [if_pos c5] at H
       have c5b0 := beq_iff_eq.mpr c5
       have c5b1 := bne_eq_false_iff_eq.mpr c5
       clear c5
       have H' := m0 H
       clear H
       have p101 : 0 ≤ (x7_1 : Int) := od
       have q101 : x7_1 < (l0.length : Int) := od
       obtain ⟨ad101, e101, hx101_0⟩ := Kd.at_int HR0.out x7_1 p101 q101
       cases e101
       replace p101 := eq_true p101
       replace q101 := eq_true q101
       go_wp2
       go_roundg k1
       case measure => have := HK1.out; omega
       case rel => exact ⟨(wrap64 (x7_1 + 1)), (by first | rfl | (simp; done) | (simp [*]; done)), H', ⟨by have := HK1.out; omega⟩, by repeat (first | exact Drawn0.refl _ | apply Drawn0.step)⟩
      ·rw [if_neg c5] at H
       have c5b0 := beq_eq_false_iff_ne.mpr c5
       have c5b1 := bne_iff_ne.mpr c5
       obtain rfl := Option.some.inj H
       have p101 : 0 ≤ (x7_1 : Int) := od
       have q101 : x7_1 < (l0.length : Int) := od
       obtain ⟨ad101, e101, hx101_0⟩ := Kd.at_int HR0.out x7_1 p101 q101
       cases e101
       replace p101 := eq_true p101
       replace q101 := eq_true q101
       go_wp2
       go_ret
       exact ⟨by first | rfl | (simp; done) | (simp [*]; done), by repeat (first | exact Drawn0.refl _ | apply Drawn0.step)⟩
     ·rw [if_neg c4] at H
      exact absurd H (by simp)
    ·rw [if_neg c3] at H
     exact absurd H (by simp)
   ·rw [if_neg c2] at H
    have c2b0 := decide_eq_false c2
    clear c2
    obtain rfl := Option.some.inj H
    go_wp2
    go_ret
    exact ⟨by first | rfl | (simp; done) | (simp [*]; done), by repeat (first | exact Drawn0.refl _ | apply Drawn0.step)⟩
end
section
def L_unless.f (a0 : Bool) (a1 : Int) : Option (Int) := if a0 = true then (some 0) else (some a1)
theorem L_unless.calls (a0 : Bool) (a1 : Int) (r : Int) (w : World) (h : L_unless.f a0 a1 = some r) :
  Calls Tryd.prog 93 #[.bool a0, .int .i64 a1] w fun e w' => e = .returned (.int .i64 r) ∧ Drawn0 w w' := by
 have H : (if a0 = true then (some 0) else (some a1)) = some r := h
 clear h
 by_cases c3 : a0 = true
 ·subst c3
  rw [if_pos rfl] at H
  obtain rfl := Option.some.inj H
  go_enter Tryd.func93, Tryd.ntmps93
  go_wp2
  go_ret
  exact ⟨by first | rfl | (simp; done) | (simp [*]; done), by repeat (first | exact Drawn0.refl _ | apply Drawn0.step)⟩
 ·replace c3 := Bool.eq_false_iff.mpr c3
  subst c3
  rw [if_neg (show ¬ (false = true) by decide)] at H
  obtain rfl := Option.some.inj H
  go_enter Tryd.func93, Tryd.ntmps93
  go_wp2
  go_ret
  exact ⟨by first | rfl | (simp; done) | (simp [*]; done), by repeat (first | exact Drawn0.refl _ | apply Drawn0.step)⟩
end
section
def L_within.f (a0 : Int) (a1 : Int) (a2 : Int) : Option (Bool) := if a1 ≤ a0 then (some (decide (a0 ≤ a2))) else (some false)
theorem L_within.calls (a0 : Int) (a1 : Int) (a2 : Int) (r : Bool) (w : World) (h : L_within.f a0 a1 a2 = some r) :
  Calls Tryd.prog 105 #[.int .i64 a0, .int .i64 a1, .int .i64 a2] w fun e w' => e = .returned (.bool r) ∧ Drawn0 w w' := by
 have H : (if a1 ≤ a0 then (some (decide (a0 ≤ a2))) else (some false)) = some r := h
 clear h
 by_cases c4 : a1 ≤ a0
 ·rw [if_pos c4] at H
  have c4b0 := decide_eq_true c4
  clear c4
  obtain rfl := Option.some.inj H
  go_enter Tryd.func105, Tryd.ntmps105
  go_wp2
  go_ret
  exact ⟨by first | rfl | (simp; done) | (simp [*]; done), by repeat (first | exact Drawn0.refl _ | apply Drawn0.step)⟩
 ·rw [if_neg c4] at H
  have c4b0 := decide_eq_false c4
  clear c4
  obtain rfl := Option.some.inj H
  go_enter Tryd.func105, Tryd.ntmps105
  go_wp2
  go_ret
  exact ⟨by first | rfl | (simp; done) | (simp [*]; done), by repeat (first | exact Drawn0.refl _ | apply Drawn0.step)⟩
end
section
def L_divisor.l0 : Nat → Int → Int → Option (Int)
 | 0, _, _ => none
 | k + 1, x0, x1 => if x1 = 0 then (some (mx x0 (wrap64 (-x0)))) else (L_divisor.l0 k x1 (Int.tmod x0 x1))
def L_divisor.f (k : Nat) (a0 : Int) (a1 : Int) : Option (Int) := L_divisor.l0 k a0 a1
theorem L_divisor.mono_l : ∀ k, (∀ y0 y1, LeO (L_divisor.l0 k y0 y1) (L_divisor.l0 (k + 1) y0 y1))
 | 0 => fun _ _ r h => by simp [L_divisor.l0] at h
 | k + 1 => by
  have ih0 := L_divisor.mono_l k
  ·intro y0 y1
   unfold L_divisor.l0
   repeat' with_reducible first
    | exact ih0 ..
    | exact LeO.refl ..
    | exact LeO.none ..
    | refine LeO.ite ?_ ?_
    | refine LeO.bind ?_ (fun _ => ?_)
theorem L_divisor.mono : ∀ a0 a1 k, LeO (L_divisor.f k a0 a1) (L_divisor.f (k + 1) a0 a1) := by
 intro a0 a1 k
 have ih0 := L_divisor.mono_l k
 unfold L_divisor.f
 repeat' with_reducible first
  | exact ih0 ..
  | exact LeO.refl ..
  | exact LeO.none ..
  | refine LeO.ite ?_ ?_
  | refine LeO.bind ?_ (fun _ => ?_)
theorem L_divisor.calls (k : Nat) (a0 : Int) (a1 : Int) (r : Int) (w : World) (h : L_divisor.f k a0 a1 = some r) :
  Calls Tryd.prog 127 #[.int .i64 a0, .int .i64 a1] w fun e w' => e = .returned (.int .i64 r) ∧ Below w.heap.size w w' := by
 have HB := m0 (Below.refl w.heap.size w)
 have H : (L_divisor.l0 k a0 a1) = some r := h
 clear h
 have H' := m0 H
 clear H
 go_enter Tryd.func127, Tryd.ntmps127
 go_wp2
 repeat (go_quiet (fail); try go_wp2)
 go_loopg [0, 1] k (fun kq v0 v1 w' => ∃ (x0_1 : Int) (x1_1 : Int), v0 = .int .i64 x0_1 ∧ v1 = .int .i64 x1_1 ∧ Aside0 (L_divisor.l0 kq x0_1 x1_1 = some r) ∧ Aside0 (kq ≤ k) ∧ Aside0 (Below w.heap.size w w'))
 case atStart => exact ⟨(a0), (a1), (by first | rfl | (simp; done) | (simp [*]; done)), (by first | rfl | (simp; done) | (simp [*]; done)), H', ⟨Nat.le_refl _⟩, ⟨bz⟩⟩
 case round =>
  clear H'
  obtain ⟨x0_1, x1_1, rfl, rfl, HA, HK1, HB⟩ := hrel
  cases gk with
  | zero => exact absurd HA.out (by simp [L_divisor.l0])
  | succ k1 =>
   have H := HA.out
   clear HA
   simp only [L_divisor.l0] at H
   by_cases c3 : x1_1 = 0
   ·rw [if_pos c3] at H
    have c3b0 := beq_iff_eq.mpr c3
    have c3b1 := bne_eq_false_iff_eq.mpr c3
    clear c3
    obtain ⟨ji4, hji4⟩ : ∃ j_ : Int, (mx x0_1 (wrap64 (-x0_1))) = j_ := ⟨_, rfl⟩
    replace H : (some ji4) = some r := by first | (rw [hji4] at H; exact H) | (simp only [hji4] at H ⊢; exact H)
    have hji4_ : (if x0_1 < (wrap64 (-x0_1)) then (wrap64 (-x0_1)) else x0_1) = ji4 := hji4
    obtain rfl := Option.some.inj H
    go_wp2
    repeat (go_quiet (fail); try go_wp2)
    go_ret
    exact ⟨by first | rfl | (simp [errW_none, errW_some] <;> rfl) | (simp only [← hji4]; first | rfl | (simp [errW_none, errW_some] <;> rfl)) | (simp [*, errW_none, errW_some] <;> rfl), by repeat (first | (with_reducible first | exact HB.out | apply below_alloc | apply pw_below_drewN | apply below_drew1) | exact HB.out)⟩
   ·rw [if_neg c3] at H
    have c3b0 := beq_eq_false_iff_ne.mpr c3
    have c3b1 := bne_iff_ne.mpr c3
    have H' := m0 H
    clear H
    go_wp2
    repeat (go_quiet (fail); try go_wp2)
    go_roundg k1
    case measure => have := HK1.out; omega
    case rel => exact ⟨(x1_1), (Int.tmod x0_1 x1_1), (by first | rfl | (simp; done) | (simp [*]; done)), (by first | rfl | (simp; done) | (simp [*]; done)), H', ⟨by have := HK1.out; omega⟩, ⟨bz⟩⟩
end
section
def L_lowestErr.j0 : Nat → Int → Bool → Int → Int → Option (Int)
 | 0, _, _, _, _ => none
 | k + 1, x1, x15, x108000, x108001 => if x15 = true then (some 3) else ((L_within.f x108000 (wrap64 (-x1)) x1).bind fun t109 => (if t109 = true then ((L_unless.f (decide (x108001 ≤ x1)) 2).bind fun t110 => (some t110)) else ((L_unless.f false 2).bind fun t111 => (some t111))))
def L_lowestErr.f (k : Nat) (a0_0 : Int) (a0_1 : Int) (a1 : Int) : Option (Int) := if a0_1 ≤ 0 then (L_lowestErr.j0 k a1 true a0_0 a0_1) else ((L_divisor.f k a0_0 a0_1).bind fun t108 => (L_lowestErr.j0 k a1 (t108 != 1) a0_0 a0_1))
theorem L_lowestErr.mono_l : ∀ k, (∀ y0 y1 y2 y3, LeO (L_lowestErr.j0 k y0 y1 y2 y3) (L_lowestErr.j0 (k + 1) y0 y1 y2 y3))
 | 0 => fun _ _ _ _ r h => by simp [L_lowestErr.j0] at h
 | k + 1 => by
  have ih0 := L_lowestErr.mono_l k
  ·intro y0 y1 y2 y3
   unfold L_lowestErr.j0
   repeat' with_reducible first
    | exact ih0 ..
    | exact L_divisor.mono ..
    | exact LeO.refl ..
    | exact LeO.none ..
    | refine LeO.ite ?_ ?_
    | refine LeO.bind ?_ (fun _ => ?_)
theorem L_lowestErr.mono : ∀ a0 a1 a2 k, LeO (L_lowestErr.f k a0 a1 a2) (L_lowestErr.f (k + 1) a0 a1 a2) := by
 intro a0 a1 a2 k
 have ih0 := L_lowestErr.mono_l k
 unfold L_lowestErr.f
 repeat' with_reducible first
  | exact ih0 ..
  | exact L_divisor.mono ..
  | exact LeO.refl ..
  | exact LeO.none ..
  | refine LeO.ite ?_ ?_
  | refine LeO.bind ?_ (fun _ => ?_)
theorem L_lowestErr.calls (k : Nat) (a0_0 : Int) (a0_1 : Int) (a1 : Int) (r : Int) (w : World) (h : L_lowestErr.f k a0_0 a0_1 a1 = some r) :
  Calls Tryd.prog 109 #[.agg #[.int .i64 a0_0, .int .i64 a0_1], .int .i64 a1] w fun e w' => e = .returned (.int .i64 r) ∧ Below w.heap.size w w' := by
 have hu26 := Tryd.underlying26
 have HB := m0 (Below.refl w.heap.size w)
 have H : (if a0_1 ≤ 0 then (L_lowestErr.j0 k a1 true a0_0 a0_1) else ((L_divisor.f k a0_0 a0_1).bind fun t108 => (L_lowestErr.j0 k a1 (t108 != 1) a0_0 a0_1))) = some r := h
 clear h
 have HC3 := m0 H
 clear H
 go_enter Tryd.func109, Tryd.ntmps109
 go_upto_region 1 with (first | ((with_reducible refine gate_dst (N := 2) rfl ?_); refine be 2 26 #[.int .i64 a0_0, .int .i64 a0_1] ?_; intro gb107 hg w4 hbox hb; have BK107 := m0 hbox; have GE107 := gw w hg; replace HB := sb HB hb; clear hb hbox hg))
 (try simp only [Act.put, List.setIfInBounds_toArray, List.set_cons_zero, List.set_cons_succ])
 go_cut [15] (fun v15 wc => ∃ (kq : Nat) (x15_2 : Bool), v15 = .bool x15_2 ∧ Aside0 (L_lowestErr.j0 kq a1 x15_2 a0_0 a0_1 = some r) ∧ Aside0 (kq ≤ k) ∧ Aside0 (wc.heap[gb107]? = some (.cells #[.int .i64 a0_0, .int .i64 a0_1] 26 (0, 0))) ∧ Aside0 (Below w.heap.size w wc))
 case first =>
  have H := HC3.out
  clear HC3
  by_cases c5 : a0_1 ≤ 0
  ·rw [if_pos c5] at H
   have c5b0 := decide_eq_true c5
   clear c5
   (first | rw [c5b0] | (simp only [i64_w, i32_w]; rw [c5b0]) | skip)
   have H' := m0 H
   clear H
   obtain ⟨hcz6_0, hcz6_1, hfz6_0, hfz6_1⟩ := b2 BK107
   go_wp2
   go_meet
   case rel => exact ⟨_, (true), (by first | rfl | (simp; done) | (simp [*]; done)), H', ⟨by first | omega | exact Nat.le_refl _⟩, ⟨bk BK107.out⟩, ⟨bz⟩⟩
  ·rw [if_neg c5] at H
   have c5b0 := decide_eq_false c5
   clear c5
   (first | rw [c5b0] | (simp only [i64_w, i32_w]; rw [c5b0]) | skip)
   replace H := ob H
   obtain ⟨t108, A7, H⟩ := H
   (try dsimp only at H)
   replace A7 := m0 A7
   have H' := m0 H
   clear H
   obtain ⟨hcz8_0, hcz8_1, hfz8_0, hfz8_1⟩ := b2 BK107
   go_wp2_with (first | (go_at_call 127; (with_reducible refine (L_divisor.calls k a0_0 a0_1 t108 _ A7.out).mono ?_); rintro e w9 ⟨rfl, hb⟩; replace BK107 := bb BK107 hb; replace HB := sb HB hb; (try clear hb)))
   go_meet
   case rel => exact ⟨_, ((t108 != 1)), (by first | rfl | (simp; done) | (simp [*]; done)), H', ⟨by first | omega | exact Nat.le_refl _⟩, ⟨bk BK107.out⟩, ⟨bz⟩⟩
 case rest =>
  clear HC3
  try clear hcz6_0
  try clear hcz6_1
  try clear hcz8_0
  try clear hcz8_1
  try clear hfz6_0
  try clear hfz6_1
  try clear hfz8_0
  try clear hfz8_1
  obtain ⟨kq, x15_2, rfl, HA, HJ2, BK107, HB⟩ := hcut
  cases kq with
  | zero => exact absurd HA.out (by simp [L_lowestErr.j0])
  | succ kj2 =>
   have H := HA.out
   clear HA
   simp only [L_lowestErr.j0] at H
   by_cases c10 : x15_2 = true
   ·subst c10
    rw [if_pos rfl] at H
    obtain rfl := Option.some.inj H
    go_wp2
    go_ret
    exact ez
   ·replace c10 := Bool.eq_false_iff.mpr c10
    subst c10
    rw [if_neg (show ¬ (false = true) by decide)] at H
    replace H := ob H
    obtain ⟨t109, A11, H⟩ := H
    (try dsimp only at H)
    replace A11 := m0 A11
    by_cases c12 : t109 = true
    ·subst c12
     rw [if_pos rfl] at H
     replace H := ob H
     obtain ⟨t110, A13, H⟩ := H
     (try dsimp only at H)
     replace A13 := m0 A13
     obtain rfl := Option.some.inj H
     obtain ⟨_, _, _, _⟩ := b2 BK107
     go_wp2_with (first | ((with_reducible refine gate_callee (f := 105) rfl ?_); refine gl (some 21) Tryd.func105 #[.int .i64 a0_0, .int .i64 (wrap64 (-a1)), .int .i64 a1] ?_; (with_reducible refine (L_within.calls a0_0 (wrap64 (-a1)) a1 true _ A11.out).mono ?_); rintro e w' ⟨rfl, ⟨nd, rfl⟩⟩; refine ⟨_, rfl, ?_⟩) | ((with_reducible refine gate_callee (f := 93) rfl ?_); refine gl (some 28) Tryd.func93 #[.bool (decide (a0_1 ≤ a1)), .int .i64 2] ?_; (with_reducible refine (L_unless.calls (decide (a0_1 ≤ a1)) 2 t110 _ A13.out).mono ?_); rintro e w' ⟨rfl, ⟨nd, rfl⟩⟩; refine ⟨_, rfl, ?_⟩))
     go_ret
     exact ez
    ·replace c12 := Bool.eq_false_iff.mpr c12
     subst c12
     rw [if_neg (show ¬ (false = true) by decide)] at H
     replace H := ob H
     obtain ⟨t111, A15, H⟩ := H
     (try dsimp only at H)
     replace A15 := m0 A15
     obtain rfl := Option.some.inj H
     obtain ⟨_, _, _, _⟩ := b2 BK107
     go_wp2_with (first | ((with_reducible refine gate_callee (f := 105) rfl ?_); refine gl (some 21) Tryd.func105 #[.int .i64 a0_0, .int .i64 (wrap64 (-a1)), .int .i64 a1] ?_; (with_reducible refine (L_within.calls a0_0 (wrap64 (-a1)) a1 false _ A11.out).mono ?_); rintro e w' ⟨rfl, ⟨nd, rfl⟩⟩; refine ⟨_, rfl, ?_⟩) | ((with_reducible refine gate_callee (f := 93) rfl ?_); refine gl (some 28) Tryd.func93 #[.bool false, .int .i64 2] ?_; (with_reducible refine (L_unless.calls false 2 t111 _ A15.out).mono ?_); rintro e w' ⟨rfl, ⟨nd, rfl⟩⟩; refine ⟨_, rfl, ?_⟩))
     go_ret
     exact ez
end
section
def L_fraction.f (k : Nat) (a0 : Int) (a1 : Int) : Option (Int × Int) := (L_divisor.f k a0 a1).bind fun t143 => (if t143 = 0 then (none) else (some (wrap64 (Int.tdiv a0 t143), wrap64 (Int.tdiv a1 t143))))
theorem L_fraction.mono : ∀ a0 a1 k, LeO (L_fraction.f k a0 a1) (L_fraction.f (k + 1) a0 a1) := by
 intro a0 a1 k
 unfold L_fraction.f
 repeat' with_reducible first
  | exact L_divisor.mono ..
  | exact LeO.refl ..
  | exact LeO.none ..
  | refine LeO.ite ?_ ?_
  | refine LeO.bind ?_ (fun _ => ?_)
def L_fraction.T2 : Bool × List (List Nat × List Nat) := (true, [([], []), ([], []), ([0, 1], [0, 1]), ([], []), ([], []), ([3, 4], [3, 4]), ([2, 5], [2, 5]), ([6, 0, 1, 2, 3, 4, 5, 6], [6])])
def L_fraction.B2 : List Nat := [0, 0, 3, 0, 0, 24, 63, 127]
theorem L_fraction.tab2 : rtab .any (opsOf Tryd.f96 2) = L_fraction.T2 := by kernel_rfl
theorem L_fraction.bits2 : waitsOk L_fraction.T2.2 L_fraction.B2 = true := by kernel_rfl
theorem L_fraction.calls (k : Nat) (a0 : Int) (a1 : Int) (r1 : Int) (r2 : Int) (w : World) (h : L_fraction.f k a0 a1 = some (r1, r2)) :
  Calls Tryd.prog 96 #[.int .i64 a0, .int .i64 a1] w fun e w' => e = .returned (.agg #[.int .i64 r1, .int .i64 r2]) ∧ Below w.heap.size w w' := by
 have hu26 := Tryd.underlying26
 have HB := m0 (Below.refl w.heap.size w)
 have H : ((L_divisor.f k a0 a1).bind fun t143 => (if t143 = 0 then (none) else (some (wrap64 (Int.tdiv a0 t143), wrap64 (Int.tdiv a1 t143))))) = some (r1, r2) := h
 clear h
 replace H := ob H
 obtain ⟨t143, A3, H⟩ := H
 (try dsimp only at H)
 replace A3 := m0 A3
 by_cases c4 : t143 = 0
 ·rw [if_pos c4] at H
  exact absurd H (by simp)
 ·rw [if_neg c4] at H
  have c4b0 := beq_eq_false_iff_ne.mpr c4
  have c4b1 := bne_iff_ne.mpr c4
  simp only [Option.some.injEq, Prod.mk.injEq] at H
  obtain ⟨rfl, rfl⟩ := H
  go_enter Tryd.func96, Tryd.ntmps96
  try go_wp2_with (first | ((with_reducible refine gate_dst (N := 4) rfl ?_); refine be 4 26 #[.int .i64 0, .int .i64 0] ?_; intro gb142 hg w5 hbox hb; have BK142 := m0 hbox; have GE142 := gw w hg; replace HB := sb HB hb; clear hb hbox hg) | ((with_reducible refine gate_callee (f := 127) rfl ?_); refine gl (some 8) Tryd.func127 #[.int .i64 a0, .int .i64 a1] ?_; (with_reducible refine (L_divisor.calls k a0 a1 t143 _ A3.out).mono ?_); rintro e w6 ⟨rfl, hb⟩; refine ⟨_, rfl, ?_⟩; replace BK142 := bb BK142 hb; replace HB := sb HB hb; (try clear hb)))
  replace BK142 := bd BK142; replace HB := sd HB
  refine start_ (n := 8) (S := fun w' => True) (ds := []) #[false, false, false, false, false, false, false, false] (by kernel_rfl) rfl rfl trivial (fun hH => ?_); refine with_tabW L_fraction.tab2 L_fraction.bits2 (fun HT_ HW_ => ?_)
  generalize w6.drew = w7 at BK142 HB hH ⊢
  refine pZ 0 (some 9) #[true, false, false, false, false, false, false, false] HT_ ?_
  refine pZ 1 (some 10) #[true, true, false, false, false, false, false, false] HT_ ?_
  refine pZ 2 (some 11) #[true, true, true, false, false, false, false, false] HT_ ?_
  refine pZ 3 (some 12) #[true, true, true, true, false, false, false, false] HT_ ?_
  refine pZ 4 (some 13) #[true, true, true, true, true, false, false, false] HT_ ?_
  refine pZ 5 (some 14) #[true, true, true, true, true, true, false, false] HT_ ?_
  refine pZ 6 (some 15) #[true, true, true, true, true, true, true, false] HT_ ?_
  refine oneZ 7 (none) #[true, true, true, true, true, true, true, true] (one_of HT_.out (by kernel_rfl)) fun K hK => ?_
  have hs8 : w7.cell? ⟨gb142, 0, none⟩ = some (.int .i64 0) := (blk_cell BK142.out 0).trans rfl
  have hfs8 := blk_frozen BK142.out 0
  have hs9 : w7.cell? ⟨gb142, 1, none⟩ = some (.int .i64 0) := (blk_cell BK142.out 1).trans rfl
  have hfs9 := blk_frozen BK142.out 1
  refine skip_ (w1 := ?_) (by rfl) rfl ?_ ?_
  rotate_left
  ·go_simp
   rfl
  refine hK.out _ _ trivial (fun hH => ?_)
  clear hK K
  refine done_ (done_of HT_.out (by kernel_rfl)) ?_
  try go_wp2
  refine bodyPost_ret (results_cell_row rfl _ _ gb142 26 #[.int .i64 (wrap64 (Int.tdiv a0 t143)), .int .i64 (wrap64 (Int.tdiv a1 t143))] (0, 0) _ rfl (bq BK142.out) Tryd.underlying26 rfl (by kernel_rfl)) rfl ?_
  exact ez
end
section
def L_scaleErr_1.f (a0 : Int) : Option (Bool) := (L_within.f a0 1 10000).bind fun t273 => (some t273)
theorem L_scaleErr_1.calls (a0 : Int) (r : Bool) (w : World) (h : L_scaleErr_1.f a0 = some r) :
  Calls Tryd.prog 134 #[.int .i64 a0] w fun e w' => e = .returned (.bool r) ∧ Drawn0 w w' := by
 have H : ((L_within.f a0 1 10000).bind fun t273 => (some t273)) = some r := h
 clear h
 replace H := ob H
 obtain ⟨t273, A2, H⟩ := H
 (try dsimp only at H)
 replace A2 := m0 A2
 obtain rfl := Option.some.inj H
 go_enter Tryd.func134, Tryd.ntmps134
 go_wp2_with (first | ((with_reducible refine gate_callee (f := 105) rfl ?_); refine gl (some 4) Tryd.func105 #[.int .i64 a0, .int .i64 1, .int .i64 10000] ?_; (with_reducible refine (L_within.calls a0 1 10000 t273 _ A2.out).mono ?_); rintro e w' ⟨rfl, ⟨nd, rfl⟩⟩; refine ⟨_, rfl, ?_⟩))
 go_ret
 exact ⟨by first | rfl | (simp; done) | (simp [*]; done), by repeat (first | exact Drawn0.refl _ | apply Drawn0.step)⟩
end
section
def L_scaleErr.f (a0_0 : Int) (a0_1 : Int) (a0_2 : Int) : Option (Int) := (L_within.f a0_0 0 15).bind fun t275 => (if t275 = true then ((L_scaleErr_1.f a0_1).bind fun t276 => (if t276 = true then ((L_scaleErr_1.f a0_2).bind fun t277 => ((L_unless.f t277 2).bind fun t278 => (some t278))) else ((L_unless.f false 2).bind fun t279 => (some t279)))) else ((L_unless.f false 2).bind fun t280 => (some t280)))
theorem L_scaleErr.calls (a0_0 : Int) (a0_1 : Int) (a0_2 : Int) (r : Int) (w : World) (h : L_scaleErr.f a0_0 a0_1 a0_2 = some r) :
  Calls Tryd.prog 110 #[.agg #[.int .i64 a0_0, .int .i64 a0_1, .int .i64 a0_2]] w fun e w' => e = .returned (.int .i64 r) ∧ Below w.heap.size w w' := by
 have hu63 := Tryd.underlying63
 have HB := m0 (Below.refl w.heap.size w)
 have H : ((L_within.f a0_0 0 15).bind fun t275 => (if t275 = true then ((L_scaleErr_1.f a0_1).bind fun t276 => (if t276 = true then ((L_scaleErr_1.f a0_2).bind fun t277 => ((L_unless.f t277 2).bind fun t278 => (some t278))) else ((L_unless.f false 2).bind fun t279 => (some t279)))) else ((L_unless.f false 2).bind fun t280 => (some t280)))) = some r := h
 clear h
 replace H := ob H
 obtain ⟨t275, A2, H⟩ := H
 (try dsimp only at H)
 replace A2 := m0 A2
 by_cases c3 : t275 = true
 ·subst c3
  rw [if_pos rfl] at H
  replace H := ob H
  obtain ⟨t276, A4, H⟩ := H
  (try dsimp only at H)
  replace A4 := m0 A4
  by_cases c5 : t276 = true
  ·subst c5
   rw [if_pos rfl] at H
   replace H := ob H
   obtain ⟨t277, A6, H⟩ := H
   (try dsimp only at H)
   replace A6 := m0 A6
   replace H := ob H
   obtain ⟨t278, A7, H⟩ := H
   (try dsimp only at H)
   replace A7 := m0 A7
   obtain rfl := Option.some.inj H
   go_enter Tryd.func110, Tryd.ntmps110
   go_wp2_with (first | ((with_reducible refine gate_dst (N := 1) rfl ?_); refine be 1 63 #[.int .i64 a0_0, .int .i64 a0_1, .int .i64 a0_2] ?_; intro gb274 hg w8 hbox hb; have BK274 := m0 hbox; have GE274 := gw w hg; replace HB := sb HB hb; clear hb hbox hg; obtain ⟨_, _, _, _, _, _⟩ := b3 BK274) | ((with_reducible refine gate_callee (f := 105) rfl ?_); refine gl (some 6) Tryd.func105 #[.int .i64 a0_0, .int .i64 0, .int .i64 15] ?_; (with_reducible refine (L_within.calls a0_0 0 15 true _ A2.out).mono ?_); rintro e w' ⟨rfl, ⟨nd, rfl⟩⟩; refine ⟨_, rfl, ?_⟩) | (go_at_call 134; (with_reducible refine (L_scaleErr_1.calls a0_1 true _ A4.out).mono ?_); rintro e w' ⟨rfl, ⟨nd, rfl⟩⟩) | (go_at_call 134; (with_reducible refine (L_scaleErr_1.calls a0_2 t277 _ A6.out).mono ?_); rintro e w' ⟨rfl, ⟨nd, rfl⟩⟩) | ((with_reducible refine gate_callee (f := 93) rfl ?_); refine gl (some 19) Tryd.func93 #[.bool t277, .int .i64 2] ?_; (with_reducible refine (L_unless.calls t277 2 t278 _ A7.out).mono ?_); rintro e w' ⟨rfl, ⟨nd, rfl⟩⟩; refine ⟨_, rfl, ?_⟩))
   go_ret
   exact ez
  ·replace c5 := Bool.eq_false_iff.mpr c5
   subst c5
   rw [if_neg (show ¬ (false = true) by decide)] at H
   replace H := ob H
   obtain ⟨t279, A10, H⟩ := H
   (try dsimp only at H)
   replace A10 := m0 A10
   obtain rfl := Option.some.inj H
   go_enter Tryd.func110, Tryd.ntmps110
   go_wp2_with (first | ((with_reducible refine gate_dst (N := 1) rfl ?_); refine be 1 63 #[.int .i64 a0_0, .int .i64 a0_1, .int .i64 a0_2] ?_; intro gb274 hg w11 hbox hb; have BK274 := m0 hbox; have GE274 := gw w hg; replace HB := sb HB hb; clear hb hbox hg; obtain ⟨_, _, _, _, _, _⟩ := b3 BK274) | ((with_reducible refine gate_callee (f := 105) rfl ?_); refine gl (some 6) Tryd.func105 #[.int .i64 a0_0, .int .i64 0, .int .i64 15] ?_; (with_reducible refine (L_within.calls a0_0 0 15 true _ A2.out).mono ?_); rintro e w' ⟨rfl, ⟨nd, rfl⟩⟩; refine ⟨_, rfl, ?_⟩) | (go_at_call 134; (with_reducible refine (L_scaleErr_1.calls a0_1 false _ A4.out).mono ?_); rintro e w' ⟨rfl, ⟨nd, rfl⟩⟩) | ((with_reducible refine gate_callee (f := 93) rfl ?_); refine gl (some 19) Tryd.func93 #[.bool false, .int .i64 2] ?_; (with_reducible refine (L_unless.calls false 2 t279 _ A10.out).mono ?_); rintro e w' ⟨rfl, ⟨nd, rfl⟩⟩; refine ⟨_, rfl, ?_⟩))
   go_ret
   exact ez
 ·replace c3 := Bool.eq_false_iff.mpr c3
  subst c3
  rw [if_neg (show ¬ (false = true) by decide)] at H
  replace H := ob H
  obtain ⟨t280, A13, H⟩ := H
  (try dsimp only at H)
  replace A13 := m0 A13
  obtain rfl := Option.some.inj H
  go_enter Tryd.func110, Tryd.ntmps110
  go_wp2_with (first | ((with_reducible refine gate_dst (N := 1) rfl ?_); refine be 1 63 #[.int .i64 a0_0, .int .i64 a0_1, .int .i64 a0_2] ?_; intro gb274 hg w14 hbox hb; have BK274 := m0 hbox; have GE274 := gw w hg; replace HB := sb HB hb; clear hb hbox hg; obtain ⟨_, _, _, _, _, _⟩ := b3 BK274) | ((with_reducible refine gate_callee (f := 105) rfl ?_); refine gl (some 6) Tryd.func105 #[.int .i64 a0_0, .int .i64 0, .int .i64 15] ?_; (with_reducible refine (L_within.calls a0_0 0 15 false _ A2.out).mono ?_); rintro e w' ⟨rfl, ⟨nd, rfl⟩⟩; refine ⟨_, rfl, ?_⟩) | ((with_reducible refine gate_callee (f := 93) rfl ?_); refine gl (some 19) Tryd.func93 #[.bool false, .int .i64 2] ?_; (with_reducible refine (L_unless.calls false 2 t280 _ A13.out).mono ?_); rintro e w' ⟨rfl, ⟨nd, rfl⟩⟩; refine ⟨_, rfl, ?_⟩))
  go_ret
  exact ez
end
section
def L_small.f (a0_0 : Int) (a0_1 : Int) : Option (Int × Int × Int) := (L_within.f a0_0 (-1000000000) 1000000000).bind fun t283 => (if t283 = true then (if a0_1 > 1000000000 then (some (0, 0, 8)) else (some (a0_0, a0_1, 0))) else (some (0, 0, 8)))
theorem L_small.calls (a0_0 : Int) (a0_1 : Int) (r1 : Int) (r2 : Int) (r3 : Int) (w : World) (h : L_small.f a0_0 a0_1 = some (r1, r2, r3)) :
  Calls Tryd.prog 111 #[.agg #[.int .i64 a0_0, .int .i64 a0_1]] w fun e w' => e = .returned (.tuple #[.agg #[.int .i64 r1, .int .i64 r2], .int .i64 r3]) ∧ Below w.heap.size w w' := by
 have hu26 := Tryd.underlying26
 have HB := m0 (Below.refl w.heap.size w)
 have H : ((L_within.f a0_0 (-1000000000) 1000000000).bind fun t283 => (if t283 = true then (if a0_1 > 1000000000 then (some (0, 0, 8)) else (some (a0_0, a0_1, 0))) else (some (0, 0, 8)))) = some (r1, r2, r3) := h
 clear h
 replace H := ob H
 obtain ⟨t283, A2, H⟩ := H
 (try dsimp only at H)
 replace A2 := m0 A2
 by_cases c3 : t283 = true
 ·subst c3
  rw [if_pos rfl] at H
  by_cases c4 : a0_1 > 1000000000
  ·rw [if_pos c4] at H
   have c4b0 := decide_eq_true c4
   clear c4
   simp only [Option.some.injEq, Prod.mk.injEq] at H
   obtain ⟨rfl, rfl, rfl⟩ := H
   go_enter Tryd.func111, Tryd.ntmps111
   go_wp2_with (first | ((with_reducible refine gate_dst (N := 1) rfl ?_); refine be 1 26 #[.int .i64 a0_0, .int .i64 a0_1] ?_; intro gb281 hg w5 hbox hb; have BK281 := m0 hbox; have GE281 := gw w hg; replace HB := sb HB hb; clear hb hbox hg) | ((with_reducible refine gate_dst (N := 2) rfl ?_); refine be 2 26 #[.int .i64 0, .int .i64 0] ?_; intro gb282 hg w6 hbox hb; have BK282 := m0 hbox; have GE282 := gw w hg; replace HB := sb HB hb; have NB281_282 := nl BK281 hg; have NB282_281 := ng (nl BK281 hg); replace BK281 := bb BK281 hb; clear hb hbox hg; have hnb7 := NB281_282.out; have hnc7 := NB282_281.out; obtain ⟨_, _, _, _⟩ := b2 BK281) | ((with_reducible refine gate_callee (f := 105) rfl ?_); refine gl (some 6) Tryd.func105 #[.int .i64 a0_0, .int .i64 (-1000000000), .int .i64 1000000000] ?_; (with_reducible refine (L_within.calls a0_0 (-1000000000) 1000000000 true _ A2.out).mono ?_); rintro e w' ⟨rfl, ⟨nd, rfl⟩⟩; refine ⟨_, rfl, ?_⟩; (try (rw [drewN_self w6]; generalize hq_ : World.drewN w6 _ = w6; replace BK281 := gd BK281 hq_; replace BK282 := gd BK282 hq_; replace HB := gs HB hq_; clear hq_)); obtain ⟨_, _, _, _⟩ := b2 BK281; obtain ⟨_, _, _, _⟩ := b2 BK282))
   refine bodyPost_ret (results_ct rfl _ _ gb282 26 #[.int .i64 0, .int .i64 0] (0, 0) _ rfl (bq BK282.out) Tryd.underlying26 rfl (by kernel_rfl)) rfl ?_
   exact ez
  ·rw [if_neg c4] at H
   have c4b0 := decide_eq_false c4
   clear c4
   simp only [Option.some.injEq, Prod.mk.injEq] at H
   obtain ⟨rfl, rfl, rfl⟩ := H
   go_enter Tryd.func111, Tryd.ntmps111
   go_wp2_with (first | ((with_reducible refine gate_dst (N := 1) rfl ?_); refine be 1 26 #[.int .i64 a0_0, .int .i64 a0_1] ?_; intro gb281 hg w11 hbox hb; have BK281 := m0 hbox; have GE281 := gw w hg; replace HB := sb HB hb; clear hb hbox hg) | ((with_reducible refine gate_dst (N := 2) rfl ?_); refine be 2 26 #[.int .i64 0, .int .i64 0] ?_; intro gb282 hg w12 hbox hb; have BK282 := m0 hbox; have GE282 := gw w hg; replace HB := sb HB hb; have NB281_282 := nl BK281 hg; have NB282_281 := ng (nl BK281 hg); replace BK281 := bb BK281 hb; clear hb hbox hg; have hnb13 := NB281_282.out; have hnc13 := NB282_281.out; obtain ⟨_, _, _, _⟩ := b2 BK281) | ((with_reducible refine gate_callee (f := 105) rfl ?_); refine gl (some 6) Tryd.func105 #[.int .i64 a0_0, .int .i64 (-1000000000), .int .i64 1000000000] ?_; (with_reducible refine (L_within.calls a0_0 (-1000000000) 1000000000 true _ A2.out).mono ?_); rintro e w' ⟨rfl, ⟨nd, rfl⟩⟩; refine ⟨_, rfl, ?_⟩; (try (rw [drewN_self w12]; generalize hq_ : World.drewN w12 _ = w12; replace BK281 := gd BK281 hq_; replace BK282 := gd BK282 hq_; replace HB := gs HB hq_; clear hq_)); obtain ⟨_, _, _, _⟩ := b2 BK281; obtain ⟨_, _, _, _⟩ := b2 BK282))
   refine bodyPost_ret (results_ct rfl _ _ gb282 26 #[.int .i64 a0_0, .int .i64 a0_1] (0, 0) _ rfl (bq BK282.out) Tryd.underlying26 rfl (by kernel_rfl)) rfl ?_
   exact ez
 ·replace c3 := Bool.eq_false_iff.mpr c3
  subst c3
  rw [if_neg (show ¬ (false = true) by decide)] at H
  simp only [Option.some.injEq, Prod.mk.injEq] at H
  obtain ⟨rfl, rfl, rfl⟩ := H
  go_enter Tryd.func111, Tryd.ntmps111
  go_wp2_with (first | ((with_reducible refine gate_dst (N := 1) rfl ?_); refine be 1 26 #[.int .i64 a0_0, .int .i64 a0_1] ?_; intro gb281 hg w17 hbox hb; have BK281 := m0 hbox; have GE281 := gw w hg; replace HB := sb HB hb; clear hb hbox hg) | ((with_reducible refine gate_dst (N := 2) rfl ?_); refine be 2 26 #[.int .i64 0, .int .i64 0] ?_; intro gb282 hg w18 hbox hb; have BK282 := m0 hbox; have GE282 := gw w hg; replace HB := sb HB hb; have NB281_282 := nl BK281 hg; have NB282_281 := ng (nl BK281 hg); replace BK281 := bb BK281 hb; clear hb hbox hg; have hnb19 := NB281_282.out; have hnc19 := NB282_281.out; obtain ⟨_, _, _, _⟩ := b2 BK281) | ((with_reducible refine gate_callee (f := 105) rfl ?_); refine gl (some 6) Tryd.func105 #[.int .i64 a0_0, .int .i64 (-1000000000), .int .i64 1000000000] ?_; (with_reducible refine (L_within.calls a0_0 (-1000000000) 1000000000 false _ A2.out).mono ?_); rintro e w' ⟨rfl, ⟨nd, rfl⟩⟩; refine ⟨_, rfl, ?_⟩; (try (rw [drewN_self w18]; generalize hq_ : World.drewN w18 _ = w18; replace BK281 := gd BK281 hq_; replace BK282 := gd BK282 hq_; replace HB := gs HB hq_; clear hq_)); obtain ⟨_, _, _, _⟩ := b2 BK282))
  refine bodyPost_ret (results_ct rfl _ _ gb282 26 #[.int .i64 0, .int .i64 0] (0, 0) _ rfl (bq BK282.out) Tryd.underlying26 rfl (by kernel_rfl)) rfl ?_
  exact ez
end
section
def L_SpeedAt.f (k : Nat) (a0_0 : Int) (a0_1 : Int) (a1_0 : Int) (a1_1 : Int) (a1_2 : Int) : Option (Int × Int × Int) := (L_lowestErr.f k a0_0 a0_1 1000000000).bind fun t287 => ((L_scaleErr.f a1_0 a1_1 a1_2).bind fun t288 => ((L_first.f k (([t287, t288] : List Int))).bind fun t292 => (if t292 = 0 then ((L_fraction.f k (wrap64 ((wrap64 (a0_0 - (wrap64 (a1_0 * a0_1)))) * a1_1)) (wrap64 (a0_1 * a1_2))).bind fun bt293 => ((L_small.f bt293.1 bt293.2).bind fun bt295 => (some (bt295.1, bt295.2.1, bt295.2.2)))) else (some (0, 0, t292)))))
theorem L_SpeedAt.mono : ∀ a0 a1 a2 a3 a4 k, LeO (L_SpeedAt.f k a0 a1 a2 a3 a4) (L_SpeedAt.f (k + 1) a0 a1 a2 a3 a4) := by
 intro a0 a1 a2 a3 a4 k
 unfold L_SpeedAt.f
 repeat' with_reducible first
  | exact L_first.mono ..
  | exact L_fraction.mono ..
  | exact L_lowestErr.mono ..
  | exact LeO.refl ..
  | exact LeO.none ..
  | refine LeO.ite ?_ ?_
  | refine LeO.bind ?_ (fun _ => ?_)
theorem L_SpeedAt.calls (k : Nat) (a0_0 : Int) (a0_1 : Int) (a1_0 : Int) (a1_1 : Int) (a1_2 : Int) (r1 : Int) (r2 : Int) (r3 : Int) (w : World) (h : L_SpeedAt.f k a0_0 a0_1 a1_0 a1_1 a1_2 = some (r1, r2, r3)) :
  Calls Tryd.prog 45 #[.agg #[.int .i64 a0_0, .int .i64 a0_1], .agg #[.int .i64 a1_0, .int .i64 a1_1, .int .i64 a1_2]] w fun e w' => e = .returned (.tuple #[.agg #[.int .i64 r1, .int .i64 r2], .int .i64 r3]) ∧ Below w.heap.size w w' := by
 have hu26 := Tryd.underlying26
 have hu63 := Tryd.underlying63
 have HB := m0 (Below.refl w.heap.size w)
 have H : ((L_lowestErr.f k a0_0 a0_1 1000000000).bind fun t287 => ((L_scaleErr.f a1_0 a1_1 a1_2).bind fun t288 => ((L_first.f k (([t287, t288] : List Int))).bind fun t292 => (if t292 = 0 then ((L_fraction.f k (wrap64 ((wrap64 (a0_0 - (wrap64 (a1_0 * a0_1)))) * a1_1)) (wrap64 (a0_1 * a1_2))).bind fun bt293 => ((L_small.f bt293.1 bt293.2).bind fun bt295 => (some (bt295.1, bt295.2.1, bt295.2.2)))) else (some (0, 0, t292)))))) = some (r1, r2, r3) := h
 clear h
 replace H := ob H
 obtain ⟨t287, A3, H⟩ := H
 (try dsimp only at H)
 replace A3 := m0 A3
 replace H := ob H
 obtain ⟨t288, A4, H⟩ := H
 (try dsimp only at H)
 replace A4 := m0 A4
 obtain ⟨y289, hy289⟩ : ∃ y_ : List Int, y_ = (([t287, t288] : List Int)) := ⟨_, rfl⟩
 replace H : ((L_first.f k y289).bind fun t292 => (if t292 = 0 then ((L_fraction.f k (wrap64 ((wrap64 (a0_0 - (wrap64 (a1_0 * a0_1)))) * a1_1)) (wrap64 (a0_1 * a1_2))).bind fun bt293 => ((L_small.f bt293.1 bt293.2).bind fun bt295 => (some (bt295.1, bt295.2.1, bt295.2.2)))) else (some (0, 0, t292)))) = some (r1, r2, r3) := by first | (rw [hy289]; with_reducible exact H) | (have H2_ := (Option.bind_some _ _).symm.trans H; rw [hy289]; with_reducible exact H2_) | (have H2_ := (Option.bind_some _ _).symm.trans H; with_reducible exact H2_) | with_reducible exact H | (rw [hy289]; exact H) | exact H
 have Ny289 := m0 hy289
 clear hy289
 replace H := ob H
 obtain ⟨t292, A5, H⟩ := H
 (try dsimp only at H)
 replace A5 := m0 A5
 by_cases c6 : t292 = 0
 ·rw [if_pos c6] at H
  have c6b0 := beq_iff_eq.mpr c6
  have c6b1 := bne_eq_false_iff_eq.mpr c6
  clear c6
  replace H := ob H
  obtain ⟨⟨t293, t294⟩, A7, H⟩ := H
  (try dsimp only at H)
  replace A7 := m0 A7
  replace H := ob H
  obtain ⟨⟨t295, t296, t297⟩, A8, H⟩ := H
  (try dsimp only at H)
  replace A8 := m0 A8
  simp only [Option.some.injEq, Prod.mk.injEq] at H
  obtain ⟨rfl, rfl, rfl⟩ := H
  go_enter Tryd.func45, Tryd.ntmps45
  try go_wp2_with (first | ((with_reducible refine gate_dst (N := 2) rfl ?_); refine be 2 26 #[.int .i64 a0_0, .int .i64 a0_1] ?_; intro gb284 hg w9 hbox hb; have BK284 := m0 hbox; have GE284 := gw w hg; replace HB := sb HB hb; clear hb hbox hg) | ((with_reducible refine gate_dst (N := 3) rfl ?_); refine be 3 63 #[.int .i64 a1_0, .int .i64 a1_1, .int .i64 a1_2] ?_; intro gb285 hg w10 hbox hb; have BK285 := m0 hbox; have GE285 := gw w hg; replace HB := sb HB hb; have NB284_285 := nl BK284 hg; have NB285_284 := ng (nl BK284 hg); replace BK284 := bb BK284 hb; clear hb hbox hg) | ((with_reducible refine gate_dst (N := 4) rfl ?_); refine be 4 26 #[.int .i64 0, .int .i64 0] ?_; intro gb286 hg w11 hbox hb; have BK286 := m0 hbox; have GE286 := gw w hg; replace HB := sb HB hb; have NB284_286 := nl BK284 hg; have NB286_284 := ng (nl BK284 hg); replace BK284 := bb BK284 hb; have NB285_286 := nl BK285 hg; have NB286_285 := ng (nl BK285 hg); replace BK285 := bb BK285 hb; clear hb hbox hg))
  replace BK284 := bd BK284; replace BK285 := bd BK285; replace BK286 := bd BK286; replace HB := sd HB
  refine start_ (n := 7) (S := fun w' => w'.cell? ⟨gb284, 0, none⟩ = some (.int .i64 a0_0) ∧ w'.cell? ⟨gb284, 1, none⟩ = some (.int .i64 a0_1) ∧ w'.cell? ⟨gb285, 0, none⟩ = some (.int .i64 a1_0) ∧ w'.cell? ⟨gb285, 1, none⟩ = some (.int .i64 a1_1) ∧ w'.cell? ⟨gb285, 2, none⟩ = some (.int .i64 a1_2)) (ds := []) #[false, false, false, false, false, false, false] (by kernel_rfl) rfl rfl cz (fun hH => ?_)
  generalize w11.drew = w12 at BK284 BK285 BK286 HB hH ⊢
  refine takeZ 0 (some 7) #[true, false, false, false, false, false, false] (by kernel_rfl) hH ?_
  refine takeZ 2 (some 9) #[true, false, true, false, false, false, false] (by kernel_rfl) hH ?_
  refine oneZ 1 (some 8) #[true, true, true, false, false, false, false] (by kernel_rfl) fun K hK => ?_
  refine gz Tryd.func109 #[.agg #[.int .i64 a0_0, .int .i64 a0_1], .int .i64 1000000000] ?_
  with_reducible refine (L_lowestErr.calls k a0_0 a0_1 1000000000 t287 _ A3.out).mono ?_
  rintro e w13 ⟨rfl, hb⟩
  refine ⟨_, rfl, ?_⟩
  replace BK284 := bb BK284 hb; replace BK285 := bb BK285 hb; replace BK286 := bb BK286 hb; replace HB := sb HB hb
  (try clear hb)
  refine hK.out _ _ cz (fun hH => ?_)
  clear hK K
  refine norm_ (a' := ?_) ?_ ?_
  rotate_left
  ·show Act.put _ (some 8) _ = _
   exact pz
  refine oneZ 3 (some 10) #[true, true, true, true, false, false, false] (by kernel_rfl) fun K hK => ?_
  refine gz Tryd.func110 #[.agg #[.int .i64 a1_0, .int .i64 a1_1, .int .i64 a1_2]] ?_
  with_reducible refine (L_scaleErr.calls a1_0 a1_1 a1_2 t288 _ A4.out).mono ?_
  rintro e w14 ⟨rfl, hb⟩
  refine ⟨_, rfl, ?_⟩
  replace BK284 := bb BK284 hb; replace BK285 := bb BK285 hb; replace BK286 := bb BK286 hb; replace HB := sb HB hb
  (try clear hb)
  refine hK.out _ _ cz (fun hH => ?_)
  clear hK K
  refine norm_ (a' := ?_) ?_ ?_
  rotate_left
  ·show Act.put _ (some 10) _ = _
   exact pz
  refine oneZ 4 (some 11) #[true, true, true, true, true, false, false] (by kernel_rfl) fun K hK => ?_
  refine Kd.R_lit_step (Kd.int .i64) _ 31 ?hg (N := 11) ?hd (xs := ([t287, t288] : List Int)) (inner := [.int .i64 t287, .int .i64 t288]) (ok := fun _ => True) (okp := fun _ => True) ?hr ?hp (fun _ hk => hk) trivial (Below.refl _ _) (Nat.le_refl _) (by simp) ?_; (case hd => rfl); (case hg => rfl); (case hr => first | (go_simp; done) | (go_simp; rfl)); (case hp => exact (Reps.one (show Kd.M (Kd.int .i64) _ _ _ t287 [.int .i64 t287] from rfl) (Reps.one (show Kd.M (Kd.int .i64) _ _ _ t288 [.int .i64 t288] from rfl) (Reps.none _ _))))
  intro v290 w15 ho16 hb hg_ hnew_
  clear hg_ hnew_
  (first | rw [← Ny289.out] at ho16 | (simp only [Int.reduceToNat] at ho16; rw [← Ny289.out] at ho16))
  have HO291 := m0 (Kd.R_lower ho16 (below_size bz)); replace BK284 := bb BK284 hb; replace BK285 := bb BK285 hb; replace BK286 := bb BK286 hb; replace HB := sb HB hb
  clear hb ho16
  obtain ⟨Ao17, co17, eo17⟩ := Kd.R_slice HO291.out
  subst eo17
  refine hK.out _ _ cz (fun hH => ?_)
  clear hK K
  refine norm_ (a' := ?_) ?_ ?_
  rotate_left
  ·show Act.put _ (some 11) _ = _
   exact pz
  refine oneZ 5 (some 12) #[true, true, true, true, true, true, false] (by kernel_rfl) fun K hK => ?_
  refine gz Tryd.func91 #[.slice Ao17 y289.length co17] ?_
  with_reducible refine (L_first.calls k _ _ y289 t292 _ ?side1 ?side2 A5.out).mono ?_
  (case side1 => exact bc (Kd.R_reads' HO291.out).2.2)
  (case side2 => exact (Kd.R_reads' HO291.out).2.1)
  rintro e w' ⟨rfl, ⟨nd, rfl⟩⟩
  refine ⟨_, rfl, ?_⟩
  refine hK.out _ _ cz (fun hH => ?_)
  clear hK K
  refine norm_ (a' := ?_) ?_ ?_
  rotate_left
  ·show Act.put _ (some 12) _ = _
   exact pz
  refine pure_ (i := 6) (N := some 6) (v := ?_) (a' := ?_) #[true, true, true, true, true, true, true] rfl rfl (by kernel_rfl) (fun _ _ _ h => h) (Or.inl ⟨by rfl, ?_⟩) ?_ ?_
  rotate_left
  ·intro w'
   go_simp
   with_reducible rfl
  rotate_left
  ·exact pz
  refine done_ (by kernel_rfl) ?_
  have hnb18 := NB284_285.out
  have hnc18 := NB285_284.out
  have hnb19 := NB284_286.out
  have hnc19 := NB286_284.out
  obtain ⟨_, _, _, _⟩ := b2 BK284
  have hnb21 := NB285_286.out
  have hnc21 := NB286_285.out
  obtain ⟨_, _, _, _, _, _⟩ := b3 BK285
  try go_wp2_with (first | ((with_reducible refine gate_callee (f := 96) rfl ?_); refine gl (some 33) Tryd.func96 #[.int .i64 (wrap64 ((wrap64 (a0_0 - (wrap64 (a1_0 * a0_1)))) * a1_1)), .int .i64 (wrap64 (a0_1 * a1_2))] ?_; (with_reducible refine (L_fraction.calls k (wrap64 ((wrap64 (a0_0 - (wrap64 (a1_0 * a0_1)))) * a1_1)) (wrap64 (a0_1 * a1_2)) t293 t294 _ A7.out).mono ?_); rintro e w23 ⟨rfl, hb⟩; refine ⟨_, rfl, ?_⟩; replace HO291 := rb HO291 hb; replace BK284 := bb BK284 hb; replace BK285 := bb BK285 hb; replace BK286 := bb BK286 hb; replace HB := sb HB hb; (try clear hb)) | ((with_reducible refine gate_callee (f := 111) rfl ?_); refine gl (some 34) Tryd.func111 #[.agg #[.int .i64 t293, .int .i64 t294]] ?_; (with_reducible refine (L_small.calls t293 t294 t295 t296 t297 _ A8.out).mono ?_); rintro e w24 ⟨rfl, hb⟩; refine ⟨_, rfl, ?_⟩; replace HO291 := rb HO291 hb; replace BK284 := bb BK284 hb; replace BK285 := bb BK285 hb; replace BK286 := bb BK286 hb; replace HB := sb HB hb; (try clear hb); obtain ⟨_, _, _, _⟩ := b2 BK286))
  refine bodyPost_ret (results_ct rfl _ _ gb286 26 #[.int .i64 t295, .int .i64 t296] (0, 0) _ rfl (bq BK286.out) Tryd.underlying26 rfl (by kernel_rfl)) rfl ?_
  exact ez
 ·rw [if_neg c6] at H
  have c6b0 := beq_eq_false_iff_ne.mpr c6
  have c6b1 := bne_iff_ne.mpr c6
  simp only [Option.some.injEq, Prod.mk.injEq] at H
  obtain ⟨rfl, rfl, rfl⟩ := H
  go_enter Tryd.func45, Tryd.ntmps45
  try go_wp2_with (first | ((with_reducible refine gate_dst (N := 2) rfl ?_); refine be 2 26 #[.int .i64 a0_0, .int .i64 a0_1] ?_; intro gb284 hg w26 hbox hb; have BK284 := m0 hbox; have GE284 := gw w hg; replace HB := sb HB hb; clear hb hbox hg) | ((with_reducible refine gate_dst (N := 3) rfl ?_); refine be 3 63 #[.int .i64 a1_0, .int .i64 a1_1, .int .i64 a1_2] ?_; intro gb285 hg w27 hbox hb; have BK285 := m0 hbox; have GE285 := gw w hg; replace HB := sb HB hb; have NB284_285 := nl BK284 hg; have NB285_284 := ng (nl BK284 hg); replace BK284 := bb BK284 hb; clear hb hbox hg) | ((with_reducible refine gate_dst (N := 4) rfl ?_); refine be 4 26 #[.int .i64 0, .int .i64 0] ?_; intro gb286 hg w28 hbox hb; have BK286 := m0 hbox; have GE286 := gw w hg; replace HB := sb HB hb; have NB284_286 := nl BK284 hg; have NB286_284 := ng (nl BK284 hg); replace BK284 := bb BK284 hb; have NB285_286 := nl BK285 hg; have NB286_285 := ng (nl BK285 hg); replace BK285 := bb BK285 hb; clear hb hbox hg))
  replace BK284 := bd BK284; replace BK285 := bd BK285; replace BK286 := bd BK286; replace HB := sd HB
  refine start_ (n := 7) (S := fun w' => w'.cell? ⟨gb284, 0, none⟩ = some (.int .i64 a0_0) ∧ w'.cell? ⟨gb284, 1, none⟩ = some (.int .i64 a0_1) ∧ w'.cell? ⟨gb285, 0, none⟩ = some (.int .i64 a1_0) ∧ w'.cell? ⟨gb285, 1, none⟩ = some (.int .i64 a1_1) ∧ w'.cell? ⟨gb285, 2, none⟩ = some (.int .i64 a1_2)) (ds := []) #[false, false, false, false, false, false, false] (by kernel_rfl) rfl rfl cz (fun hH => ?_)
  generalize w28.drew = w29 at BK284 BK285 BK286 HB hH ⊢
  refine takeZ 0 (some 7) #[true, false, false, false, false, false, false] (by kernel_rfl) hH ?_
  refine takeZ 2 (some 9) #[true, false, true, false, false, false, false] (by kernel_rfl) hH ?_
  refine oneZ 1 (some 8) #[true, true, true, false, false, false, false] (by kernel_rfl) fun K hK => ?_
  refine gz Tryd.func109 #[.agg #[.int .i64 a0_0, .int .i64 a0_1], .int .i64 1000000000] ?_
  with_reducible refine (L_lowestErr.calls k a0_0 a0_1 1000000000 t287 _ A3.out).mono ?_
  rintro e w30 ⟨rfl, hb⟩
  refine ⟨_, rfl, ?_⟩
  replace BK284 := bb BK284 hb; replace BK285 := bb BK285 hb; replace BK286 := bb BK286 hb; replace HB := sb HB hb
  (try clear hb)
  refine hK.out _ _ cz (fun hH => ?_)
  clear hK K
  refine norm_ (a' := ?_) ?_ ?_
  rotate_left
  ·show Act.put _ (some 8) _ = _
   exact pz
  refine oneZ 3 (some 10) #[true, true, true, true, false, false, false] (by kernel_rfl) fun K hK => ?_
  refine gz Tryd.func110 #[.agg #[.int .i64 a1_0, .int .i64 a1_1, .int .i64 a1_2]] ?_
  with_reducible refine (L_scaleErr.calls a1_0 a1_1 a1_2 t288 _ A4.out).mono ?_
  rintro e w31 ⟨rfl, hb⟩
  refine ⟨_, rfl, ?_⟩
  replace BK284 := bb BK284 hb; replace BK285 := bb BK285 hb; replace BK286 := bb BK286 hb; replace HB := sb HB hb
  (try clear hb)
  refine hK.out _ _ cz (fun hH => ?_)
  clear hK K
  refine norm_ (a' := ?_) ?_ ?_
  rotate_left
  ·show Act.put _ (some 10) _ = _
   exact pz
  refine oneZ 4 (some 11) #[true, true, true, true, true, false, false] (by kernel_rfl) fun K hK => ?_
  refine Kd.R_lit_step (Kd.int .i64) _ 31 ?hg (N := 11) ?hd (xs := ([t287, t288] : List Int)) (inner := [.int .i64 t287, .int .i64 t288]) (ok := fun _ => True) (okp := fun _ => True) ?hr ?hp (fun _ hk => hk) trivial (Below.refl _ _) (Nat.le_refl _) (by simp) ?_; (case hd => rfl); (case hg => rfl); (case hr => first | (go_simp; done) | (go_simp; rfl)); (case hp => exact (Reps.one (show Kd.M (Kd.int .i64) _ _ _ t287 [.int .i64 t287] from rfl) (Reps.one (show Kd.M (Kd.int .i64) _ _ _ t288 [.int .i64 t288] from rfl) (Reps.none _ _))))
  intro v290 w32 ho33 hb hg_ hnew_
  clear hg_ hnew_
  (first | rw [← Ny289.out] at ho33 | (simp only [Int.reduceToNat] at ho33; rw [← Ny289.out] at ho33))
  have HO291 := m0 (Kd.R_lower ho33 (below_size bz)); replace BK284 := bb BK284 hb; replace BK285 := bb BK285 hb; replace BK286 := bb BK286 hb; replace HB := sb HB hb
  clear hb ho33
  obtain ⟨Ao34, co34, eo34⟩ := Kd.R_slice HO291.out
  subst eo34
  refine hK.out _ _ cz (fun hH => ?_)
  clear hK K
  refine norm_ (a' := ?_) ?_ ?_
  rotate_left
  ·show Act.put _ (some 11) _ = _
   exact pz
  refine oneZ 5 (some 12) #[true, true, true, true, true, true, false] (by kernel_rfl) fun K hK => ?_
  refine gz Tryd.func91 #[.slice Ao34 y289.length co34] ?_
  with_reducible refine (L_first.calls k _ _ y289 t292 _ ?side1 ?side2 A5.out).mono ?_
  (case side1 => exact bc (Kd.R_reads' HO291.out).2.2)
  (case side2 => exact (Kd.R_reads' HO291.out).2.1)
  rintro e w' ⟨rfl, ⟨nd, rfl⟩⟩
  refine ⟨_, rfl, ?_⟩
  refine hK.out _ _ cz (fun hH => ?_)
  clear hK K
  refine norm_ (a' := ?_) ?_ ?_
  rotate_left
  ·show Act.put _ (some 12) _ = _
   exact pz
  refine pure_ (i := 6) (N := some 6) (v := ?_) (a' := ?_) #[true, true, true, true, true, true, true] rfl rfl (by kernel_rfl) (fun _ _ _ h => h) (Or.inl ⟨by rfl, ?_⟩) ?_ ?_
  rotate_left
  ·intro w'
   go_simp
   with_reducible rfl
  rotate_left
  ·exact pz
  refine done_ (by kernel_rfl) ?_
  have hnb35 := NB286_284.out
  have hnc35 := NB284_286.out
  have hnb36 := NB286_285.out
  have hnc36 := NB285_286.out
  obtain ⟨_, _, _, _⟩ := b2 BK286
  try go_wp2
  refine bodyPost_ret (results_ct rfl _ _ gb286 26 #[.int .i64 0, .int .i64 0] (0, 0) _ rfl (bq BK286.out) Tryd.underlying26 rfl (by kernel_rfl)) rfl ?_
  exact ez
end
section
theorem eqA36 (d : Nat) (w : World) (x0 y0 : Int) (x1 y1 : Int) (x2 y2 : Int) :
  (Op.equalIn (d + 3) 36 (.agg #[.int .i64 x0, .int .i64 x1, .int .i64 x2]) (.agg #[.int .i64 y0, .int .i64 y1, .int .i64 y2])).run Tryd.prog w = .ok ((x0 == y0 && (x1 == y1)) && (x2 == y2)) w := by
 refine eqA_of Tryd.underlying36 (by kernel_rfl) ?_
 refine eqf_cons (by rfl) (by go_simp) (by go_simp) (eqA26 (d + 0) w _ _ _ _) ?_
 exact eqf_last (by rfl) (by go_simp; rfl) (by go_simp; rfl) (by go_simp)
end
section
def L_cases.l0 : Nat → Int → Int → Int → List Int → Option (Int × Bool)
 | 0, _, _, _, _ => none
 | k + 1, x6, x7, x8, x113000 => if x8 < x7 then (if (wrap64 (x6 * (x113000.length : Int))) > 4096 then (some (0, false)) else (L_cases.l0 k (wrap64 (x6 * (x113000.length : Int))) x7 (wrap64 (x8 + 1)) x113000)) else (some (x6, true))
def L_cases.f (k : Nat) (l0_0 : List Int) (a1 : Int) : Option (Int × Bool) := L_cases.l0 k 1 a1 0 l0_0
theorem L_cases.mono_l : ∀ k, (∀ y0 y1 y2 y3, LeO (L_cases.l0 k y0 y1 y2 y3) (L_cases.l0 (k + 1) y0 y1 y2 y3))
 | 0 => fun _ _ _ _ r h => by simp [L_cases.l0] at h
 | k + 1 => by
  have ih0 := L_cases.mono_l k
  ·intro y0 y1 y2 y3
   unfold L_cases.l0
   repeat' with_reducible first
    | exact ih0 ..
    | exact LeO.refl ..
    | exact LeO.none ..
    | refine LeO.ite ?_ ?_
    | refine LeO.bind ?_ (fun _ => ?_)
theorem L_cases.mono : ∀ a0 a1 k, LeO (L_cases.f k a0 a1) (L_cases.f (k + 1) a0 a1) := by
 intro a0 a1 k
 have ih0 := L_cases.mono_l k
 unfold L_cases.f
 repeat' with_reducible first
  | exact ih0 ..
  | exact LeO.refl ..
  | exact LeO.none ..
  | refine LeO.ite ?_ ?_
  | refine LeO.bind ?_ (fun _ => ?_)
theorem L_cases.calls (k : Nat) (A0_0 : Option Addr) (c0_0 : Nat) (l0_0 : List Int) (a1 : Int) (r1 : Int) (r2 : Bool) (w : World) (hr0_0 : Kd.C (Kd.int .i64) w A0_0 l0_0.length l0_0) (hc0_0 : l0_0.length ≤ c0_0) (h : L_cases.f k l0_0 a1 = some (r1, r2)) :
  Calls Tryd.prog 121 #[.agg #[.slice A0_0 l0_0.length c0_0], .int .i64 a1] w fun e w' => e = .returned (.tuple #[.int .i64 r1, .bool r2]) ∧ Below w.heap.size w w' := by
 have hu24 := Tryd.underlying24
 have HR0_0 := m0 hr0_0
 have HC0_0 := m0 hc0_0
 clear hr0_0 hc0_0
 have HB := m0 (Below.refl w.heap.size w)
 have H : (L_cases.l0 k 1 a1 0 l0_0) = some (r1, r2) := h
 clear h
 have H' := m0 H
 clear H
 go_enter Tryd.func121, Tryd.ntmps121
 go_wp2_with (first | ((with_reducible refine gate_dst (N := 2) rfl ?_); refine be 2 24 #[.slice A0_0 l0_0.length c0_0] ?_; intro gb112 hg w3 hbox hb; have BK112 := m0 hbox; have GE112 := gw w hg; replace HB := sb HB hb; clear hb hbox hg))
 go_loopg [6, 8] k (fun kq v6 v8 w' => ∃ (x6_1 : Int) (x8_1 : Int), v6 = .int .i64 x6_1 ∧ v8 = .int .i64 x8_1 ∧ Aside0 (L_cases.l0 kq x6_1 a1 x8_1 l0_0 = some (r1, r2)) ∧ Aside0 (kq ≤ k) ∧ Aside0 (w'.heap[gb112]? = some (.cells #[(.slice A0_0 l0_0.length c0_0)] 24 (0, 0))) ∧ Aside0 (Below w.heap.size w w'))
 case atStart => exact ⟨(1), (0), (by first | rfl | (simp; done) | (simp [*]; done)), (by first | rfl | (simp; done) | (simp [*]; done)), H', ⟨Nat.le_refl _⟩, ⟨bk BK112.out⟩, ⟨bz⟩⟩
 case round =>
  clear H'
  obtain ⟨x6_1, x8_1, rfl, rfl, HA, HK1, BK112, HB⟩ := hrel
  cases gk with
  | zero => exact absurd HA.out (by simp [L_cases.l0])
  | succ k1 =>
   have H := HA.out
   clear HA
   simp only [L_cases.l0] at H
   by_cases c4 : x8_1 < a1
   ·rw [if_pos c4] at H
    have c4b0 := decide_eq_true c4
    clear c4
    by_cases c5 : (wrap64 (x6_1 * (l0_0.length : Int))) > 4096
    ·rw [if_pos c5] at H
     have c5b0 := decide_eq_true c5
     clear c5
     simp only [Option.some.injEq, Prod.mk.injEq] at H
     obtain ⟨rfl, rfl⟩ := H
     obtain ⟨_, _⟩ := b1 BK112
     go_wp2
     go_ret2
     exact ez
    ·rw [if_neg c5] at H
     have c5b0 := decide_eq_false c5
     clear c5
     have H' := m0 H
     clear H
     obtain ⟨_, _⟩ := b1 BK112
     go_wp2
     go_roundg k1
     case measure => have := HK1.out; omega
     case rel => exact ⟨(wrap64 (x6_1 * (l0_0.length : Int))), (wrap64 (x8_1 + 1)), (by first | rfl | (simp; done) | (simp [*]; done)), (by first | rfl | (simp; done) | (simp [*]; done)), H', ⟨by have := HK1.out; omega⟩, ⟨bk BK112.out⟩, ⟨bz⟩⟩
   ·rw [if_neg c4] at H
    have c4b0 := decide_eq_false c4
    clear c4
    simp only [Option.some.injEq, Prod.mk.injEq] at H
    obtain ⟨rfl, rfl⟩ := H
    go_wp2
    go_ret2
    exact ez
end
section
theorem slices_IndexFunc_int_int.own (g : Nat) (lb : Array Value) (eg : ∀ args w, (callFunc g args).run Tryd.prog w = .ok (.enter g args) w) (p : Int → Bool) (A0 : Option Addr) (c0 : Nat) (l0 : List Int) (w : World) (hp : PredI g lb p w) (hr0 : Kd.C (Kd.int .i64) w A0 l0.length l0) :
  Calls Tryd.prog 141 #[.slice A0 l0.length c0, .func (.func g) #[] lb] w fun e w' => e = .returned (.int .i64 (idxF p l0)) ∧ Drawn0 w w' := by
 have HR0 := m0 hr0
 have HL := m0 (show (l0.length : Int) ≤ 9223372036854775807 from by have := hr0.2.1; omega)
 clear hr0
 have hpAt : ∀ (x : Int) (q : Nat), Calls Tryd.prog g (#[.int .i64 x] ++ lb) (w.drewN q) fun e w' => e = .returned (.bool (p x)) ∧ ∃ q', w' = (w.drewN q).drewN q' := fun x q => hp _ x (pw_below_drewN (Below.refl _ w) q)
 have HP := m0 hpAt
 clear hpAt hp
 go_enter Tryd.func141, Tryd.ntmps141
 go_wp2
 go_loopg [5, 8] l0.length (fun gg _ s8 wr => ∃ x : Int, s8 = .int .i64 x ∧ Aside0 (0 ≤ x ∧ x ≤ l0.length ∧ (l0.length : Int) - x ≤ gg ∧ ∀ j : Nat, (j : Int) < x → p (rd l0 j) = false) ∧ Drawn0 w wr)
 case atStart => exact ⟨0, rfl, ⟨by omega, by omega, by omega, fun j hj => by omega⟩, Drawn0.refl _⟩
 case round =>
  obtain ⟨x, rfl, HA, ⟨q, rfl⟩⟩ := hrel
  by_cases hlt : x < (l0.length : Int)
  ·obtain ⟨ad, e, hx⟩ := Kd.at_int HR0.out x HA.out.1 hlt
   cases e
   have c1 : decide (x < (l0.length : Int)) = true := decide_eq_true hlt
   have p1 := eq_true HA.out.1
   have q1 := eq_true hlt
   clear hlt
   have hcall := HP.out (rd l0 x)
   cases hq : p (rd l0 x) with
   | true =>
    rw [hq] at hcall
    have HQ := m0 hq
    have HC := m0 hcall
    clear hq hcall
    go_wp2_with (go_at_fn g; refine (HC.out _).mono ?_; rintro e w' ⟨rfl, q', rfl⟩)
    go_ret
    refine ⟨?_, ⟨⟨_, rfl⟩⟩⟩
    obtain ⟨h0, h1, h2, h3⟩ := HA.out
    have hc := of_decide_eq_true c1
    have hn : ((x.toNat : Nat) : Int) = x := by omega
    exact ret_int (by rw [idxF_hit p l0 x.toNat (by omega) (by rw [hn]; exact HQ.out) (fun j hj => h3 j (by omega)), hn])
   | false =>
    rw [hq] at hcall
    have HQ := m0 hq
    have HC := m0 hcall
    clear hq hcall
    go_wp2_with (go_at_fn g; refine (HC.out _).mono ?_; rintro e w' ⟨rfl, q', rfl⟩)
    obtain ⟨h0, h1, h2, h3⟩ := HA.out
    have hc := of_decide_eq_true c1
    have hL := HL.out
    go_roundg (l0.length - (x + 1)).toNat
    case measure => omega
    case rel =>
     refine ⟨wrap64 (x + 1), rfl, ⟨?_⟩, ⟨⟨_, rfl⟩⟩⟩
     have e1 : wrap64 (x + 1) = x + 1 := by unfold wrap64; omega
     rw [e1]
     refine ⟨by omega, by omega, by omega, fun j hj => ?_⟩
     by_cases e : (j : Int) = x
     ·rw [e]; exact HQ.out
     ·exact h3 j (by omega)
  ·have c1 : decide (x < (l0.length : Int)) = false := decide_eq_false hlt
   have HN := m0 hlt
   clear hlt
   go_wp2
   go_ret
   refine ⟨?_, ⟨⟨q, rfl⟩⟩⟩
   obtain ⟨h0, h1, h2, h3⟩ := HA.out
   have := HN.out
   exact ret_int (idxF_miss p l0 (fun j hj => h3 j (by omega))).symm
end
section
def L_listErr.f (l0 : List Int) (a1 a2 : Int) : Option (Int × Int) :=
 if l0.length = 0 then some (0, 10) else if a1 < l0.length then some (0, 8) else
  if idxF (fun x => !(decide (0 ≤ x) && decide (x ≤ a2))) l0 ≥ 0 then some (idxF (fun x => !(decide (0 ≤ x) && decide (x ≤ a2))) l0, 2) else some (0, 0)
theorem C_two {w : World} {b : Nat} {x y : Int} (h0 : w.cell? ⟨b, 0, none⟩ = some (.int .i64 x)) (h1 : w.cell? ⟨b, 1, none⟩ = some (.int .i64 y)) : Kd.C (Kd.int .i64) w (some ⟨b, 0, none⟩) [x, y].length [x, y] := by
 refine ⟨rfl, by simp, fun _ => ⟨_, rfl, ?_⟩⟩
 intro j p hp
 match j, hp with
 | 0, hp => exact ⟨[.int .i64 x], rfl, by cases hp; rfl, fun i u hu => by match i, hu with | 0, hu => cases hu; show w.cell? ((⟨b, 0, none⟩ : Addr).add 0) = _; rw [add_plain]; exact h0 | (k + 1), hu => simp at hu⟩
 | 1, hp => exact ⟨[.int .i64 y], rfl, by cases hp; rfl, fun i u hu => by match i, hu with | 0, hu => cases hu; show w.cell? ((⟨b, 0, none⟩ : Addr).add 1) = _; rw [add_plain]; exact h1 | (k + 1), hu => simp at hu⟩
 | (k + 2), hp => simp at hp
theorem first_two (x y : Int) : L_first.f 4 [x, y] = some (if x = 0 then y else x) := by
 by_cases hx : x = 0
 ·by_cases hy : y = 0 <;> simp [L_first.f, L_first.l0, rd, wrap64, hx, hy]
 ·simp [L_first.f, L_first.l0, rd, hx]
theorem first_two_calls {b : Nat} {x y : Int} (w : World) (h0 : w.cell? ⟨b, 0, none⟩ = some (.int .i64 x)) (h1 : w.cell? ⟨b, 1, none⟩ = some (.int .i64 y)) :
  Calls Tryd.prog 91 #[.slice (some ⟨b, 0, none⟩) 2 2] w fun e w' => e = .returned (.int .i64 (if x = 0 then y else x)) ∧ ∃ q, w' = w.drewN q :=
 (L_first.calls 4 (some ⟨b, 0, none⟩) 2 [x, y] _ w (C_two h0 h1) (by simp) (first_two x y)).mono fun _ _ ⟨he, hw⟩ => ⟨he, hw.out⟩
theorem unless_calls (b : Bool) (e : Int) (w : World) : Calls Tryd.prog 93 #[.bool b, .int .i64 e] w fun x w' => x = .returned (.int .i64 (if b = true then 0 else e)) ∧ ∃ q, w' = w.drewN q :=
 (L_unless.calls b e _ w (by cases b <;> rfl)).mono fun _ _ ⟨he, hw⟩ => ⟨he, hw.out⟩
theorem L_listErr.pred {B : Nat} {a2 : Int} {w : World} (hc : w.cell? ⟨B, 0, none⟩ = some (.int .i64 a2)) : PredI 142 #[.pointer (some ⟨B, 0, none⟩)] (fun x => !(decide (0 ≤ x) && decide (x ≤ a2))) w := by
 intro W x hb
 have hc' := pw_cell_below hb hc
 clear hc hb
 by_cases h1 : 0 ≤ x <;> by_cases h2 : x ≤ a2 <;> simp only [h1, h2, decide_true, decide_false, Bool.and_self, Bool.and_false, Bool.false_and, Bool.not_true, Bool.not_false]
 all_goals
  go_enter Tryd.func142, Tryd.ntmps142
  go_wp2
  go_ret
  exact ⟨rfl, 0, rfl⟩
theorem L_listErr.calls (A0 : Option Addr) (c0 : Nat) (l0 : List Int) (a1 a2 : Int) (r1 r2 : Int) (w : World) (hr0 : Kd.C (Kd.int .i64) w A0 l0.length l0) (hc0 : l0.length ≤ c0) (h : L_listErr.f l0 a1 a2 = some (r1, r2)) :
  Calls Tryd.prog 120 #[.slice A0 l0.length c0, .int .i64 a1, .int .i64 a2] w fun e w' => e = .returned (.tuple #[.int .i64 r1, .int .i64 r2]) ∧ Below w.heap.size w w' := by
 have HR0 := m0 hr0
 clear hr0 hc0
 have i150 : Tryd.prog.cellsOf 3 = 1 := by kernel_rfl
 by_cases h0 : l0.length = 0
 ·have t1 : decide ((0 : Int) < (l0.length : Int)) = false := decide_eq_false (by omega)
  have t2 : decide (0 < l0.length) = false := decide_eq_false (by omega)
  simp only [L_listErr.f, h0, if_pos] at h
  obtain ⟨rfl, rfl⟩ := h
  clear h0
  cases h3 : decide ((l0.length : Int) ≤ a1)
  ·go_enter Tryd.func120, Tryd.ntmps120
   go_wp2_with (first | (go_at_call 93; refine (unless_calls _ _ _).mono ?_; rintro e w' ⟨rfl, q, rfl⟩) | (go_at_call 91; refine (first_two_calls (x := 10) (y := 8) _ (by go_simp) (by go_simp)).mono ?_; rintro e w' ⟨rfl, q, rfl⟩))
   go_ret2
   exact ⟨rfl, by repeat (first | exact Below.refl _ _ | apply below_alloc | apply pw_below_drewN | apply below_drew)⟩
  ·go_enter Tryd.func120, Tryd.ntmps120
   go_wp2_with (first | (go_at_call 93; refine (unless_calls _ _ _).mono ?_; rintro e w' ⟨rfl, q, rfl⟩) | (go_at_call 91; refine (first_two_calls (x := 10) (y := 0) _ (by go_simp) (by go_simp)).mono ?_; rintro e w' ⟨rfl, q, rfl⟩))
   go_ret2
   exact ⟨rfl, by repeat (first | exact Below.refl _ _ | apply below_alloc | apply pw_below_drewN | apply below_drew)⟩
 ·have t1 : decide ((0 : Int) < (l0.length : Int)) = true := decide_eq_true (by omega)
  have t2 : decide (0 < l0.length) = true := decide_eq_true (by omega)
  simp only [L_listErr.f, h0, if_neg, not_false_eq_true] at h
  by_cases h3 : a1 < l0.length
  ·rw [if_pos h3] at h
   obtain ⟨rfl, rfl⟩ := h
   have t3 : decide ((l0.length : Int) ≤ a1) = false := decide_eq_false (by omega)
   clear h0 h3
   go_enter Tryd.func120, Tryd.ntmps120
   go_wp2_with (first | (go_at_call 93; refine (unless_calls _ _ _).mono ?_; rintro e w' ⟨rfl, q, rfl⟩) | (go_at_call 91; refine (first_two_calls (x := 0) (y := 8) _ (by go_simp) (by go_simp)).mono ?_; rintro e w' ⟨rfl, q, rfl⟩))
   go_ret2
   exact ⟨rfl, by repeat (first | exact Below.refl _ _ | apply below_alloc | apply pw_below_drewN | apply below_drew)⟩
  ·rw [if_neg h3] at h
   have t3 : decide ((l0.length : Int) ≤ a1) = true := decide_eq_true (by omega)
   clear h0 h3
   generalize hI : idxF (fun x => !(decide (0 ≤ x) && decide (x ≤ a2))) l0 = I at h
   have hcall : ∀ W : World, W.cell? ⟨w.heap.size, 0, none⟩ = some (.int .i64 a2) → Below w.heap.size w W → Calls Tryd.prog 141 #[.slice A0 l0.length c0, .func (.func 142) #[] #[.pointer (some ⟨w.heap.size, 0, none⟩)]] W fun e w' => e = .returned (.int .i64 I) ∧ ∃ q, w' = W.drewN q := fun W hc hb => by
    rw [← hI]
    exact (slices_IndexFunc_int_int.own _ _ (enters_of Tryd.func142 (by kernel_rfl) rfl) _ A0 c0 l0 W (L_listErr.pred hc) (Kd.C_below HR0.out hb)).mono fun _ _ ⟨he, hw⟩ => ⟨he, hw.out⟩
   have HC := m0 hcall
   clear hcall hI
   by_cases h4 : I ≥ 0
   ·rw [if_pos h4] at h
    simp only [Option.some.injEq, Prod.mk.injEq] at h
    obtain ⟨h5, rfl⟩ := h
    subst h5
    have t4 : decide (0 ≤ I) = true := decide_eq_true h4
    clear h4
    go_enter Tryd.func120, Tryd.ntmps120
    go_wp2_with (first | (go_at_call 93; refine (unless_calls _ _ _).mono ?_; rintro e w' ⟨rfl, q, rfl⟩) | (go_at_call 91; refine (first_two_calls (x := 0) (y := 0) _ (by go_simp) (by go_simp)).mono ?_; rintro e w' ⟨rfl, q, rfl⟩) | (go_at_call 141; refine (HC.out _ (by go_simp) (by repeat (first | exact Below.refl _ _ | apply below_alloc | apply pw_below_drewN | apply below_drew))).mono ?_; rintro e w' ⟨rfl, q, rfl⟩))
    go_ret2
    exact ⟨rfl, by repeat (first | exact Below.refl _ _ | apply below_alloc | apply pw_below_drewN | apply below_drew)⟩
   ·rw [if_neg h4] at h
    obtain ⟨rfl, rfl⟩ := h
    have t4 : decide (0 ≤ I) = false := decide_eq_false h4
    clear h4
    go_enter Tryd.func120, Tryd.ntmps120
    go_wp2_with (first | (go_at_call 93; refine (unless_calls _ _ _).mono ?_; rintro e w' ⟨rfl, q, rfl⟩) | (go_at_call 91; refine (first_two_calls (x := 0) (y := 0) _ (by go_simp) (by go_simp)).mono ?_; rintro e w' ⟨rfl, q, rfl⟩) | (go_at_call 141; refine (HC.out _ (by go_simp) (by repeat (first | exact Below.refl _ _ | apply below_alloc | apply pw_below_drewN | apply below_drew))).mono ?_; rintro e w' ⟨rfl, q, rfl⟩))
    go_ret2
    exact ⟨rfl, by repeat (first | exact Below.refl _ _ | apply below_alloc | apply pw_below_drewN | apply below_drew)⟩
end
section
def L_CheckNoise.f (l0_0 : List Int) : Option (Int × Int) := (L_listErr.f l0_0 4 1000).bind fun bt103 => (some (bt103.1, bt103.2))
theorem L_CheckNoise.calls (A0_0 : Option Addr) (c0_0 : Nat) (l0_0 : List Int) (r1 : Int) (r2 : Int) (w : World) (hr0_0 : Kd.C (Kd.int .i64) w A0_0 l0_0.length l0_0) (hc0_0 : l0_0.length ≤ c0_0) (h : L_CheckNoise.f l0_0 = some (r1, r2)) :
  Calls Tryd.prog 51 #[.agg #[.slice A0_0 l0_0.length c0_0]] w fun e w' => e = .returned (.tuple #[.int .i64 r1, .int .i64 r2]) ∧ Below w.heap.size w w' := by
 have hu24 := Tryd.underlying24
 have HR0_0 := m0 hr0_0
 have HC0_0 := m0 hc0_0
 clear hr0_0 hc0_0
 have HB := m0 (Below.refl w.heap.size w)
 have H : ((L_listErr.f l0_0 4 1000).bind fun bt103 => (some (bt103.1, bt103.2))) = some (r1, r2) := h
 clear h
 replace H := ob H
 obtain ⟨⟨t103, t104⟩, A2, H⟩ := H
 (try dsimp only at H)
 replace A2 := m0 A2
 simp only [Option.some.injEq, Prod.mk.injEq] at H
 obtain ⟨rfl, rfl⟩ := H
 go_enter Tryd.func51, Tryd.ntmps51
 go_wp2_with (first | ((with_reducible refine gate_dst (N := 1) rfl ?_); refine be 1 24 #[.slice A0_0 l0_0.length c0_0] ?_; intro gb102 hg w3 hbox hb; have BK102 := m0 hbox; have GE102 := gw w hg; replace HB := sb HB hb; clear hb hbox hg; obtain ⟨_, _⟩ := b1 BK102) | ((with_reducible refine gate_callee (f := 120) rfl ?_); refine gl (some 6) Tryd.func120 #[.slice A0_0 l0_0.length c0_0, .int .i64 4, .int .i64 1000] ?_; (with_reducible refine (L_listErr.calls _ _ l0_0 4 1000 t103 t104 _ ?side1 ?side2 A2.out).mono ?_); (case side1 => exact cb HR0_0 HB); (case side2 => exact HC0_0.out); rintro e w5 ⟨rfl, hb⟩; refine ⟨_, rfl, ?_⟩; replace BK102 := bb BK102 hb; replace HB := sb HB hb; (try clear hb)))
 go_ret2
 exact ez
end
section
def L_CheckSpectrum.f (l0 : List Int) : Option (Int × Int) := (L_listErr.f l0 16 10000).bind fun bt105 => (some (bt105.1, bt105.2))
theorem L_CheckSpectrum.calls (A0 : Option Addr) (c0 : Nat) (l0 : List Int) (r1 : Int) (r2 : Int) (w : World) (hr0 : Kd.C (Kd.int .i64) w A0 l0.length l0) (hc0 : l0.length ≤ c0) (h : L_CheckSpectrum.f l0 = some (r1, r2)) :
  Calls Tryd.prog 75 #[.slice A0 l0.length c0] w fun e w' => e = .returned (.tuple #[.int .i64 r1, .int .i64 r2]) ∧ Below w.heap.size w w' := by
 have HR0 := m0 hr0
 have HC0 := m0 hc0
 clear hr0 hc0
 have HB := m0 (Below.refl w.heap.size w)
 have H : ((L_listErr.f l0 16 10000).bind fun bt105 => (some (bt105.1, bt105.2))) = some (r1, r2) := h
 clear h
 replace H := ob H
 obtain ⟨⟨t105, t106⟩, A2, H⟩ := H
 (try dsimp only at H)
 replace A2 := m0 A2
 simp only [Option.some.injEq, Prod.mk.injEq] at H
 obtain ⟨rfl, rfl⟩ := H
 go_enter Tryd.func75, Tryd.ntmps75
 go_wp2_with (first | ((with_reducible refine gate_callee (f := 120) rfl ?_); refine gl (some 5) Tryd.func120 #[.slice A0 l0.length c0, .int .i64 16, .int .i64 10000] ?_; (with_reducible refine (L_listErr.calls _ _ l0 16 10000 t105 t106 _ ?side1 ?side2 A2.out).mono ?_); (case side1 => repeat (first | exact HR0.out | (with_reducible refine Kd.C_alloc ?_ _) | (with_reducible refine Kd.C_drewN ?_ _) | (with_reducible refine Kd.C_drew ?_))); (case side2 => exact HC0.out); rintro e w3 ⟨rfl, hb⟩; refine ⟨_, rfl, ?_⟩; replace HB := sb HB hb; (try clear hb)))
 go_ret2
 exact ez
end
section
def slices_Max_int_int.l0 : Nat → List Int → Int → Int → Option (Int)
  | 0, _, _, _ => none
  | k + 1, x0, x3, x4 => if x4 < (x0.length : Int) then (if 0 ≤ x4 then (slices_Max_int_int.l0 k x0 (mx x3 (rd x0 x4)) (wrap64 (x4 + 1))) else (none)) else (some x3)
def slices_Max_int_int.f (k : Nat) (l0 : List Int) : Option (Int) := if (l0.length : Int) < 1 then (none) else (if 0 < (l0.length : Int) then (slices_Max_int_int.l0 k l0 (rd l0 0) 1) else (none))
theorem slices_Max_int_int.mono_l : ∀ k, (∀ y0 y1 y2, LeO (slices_Max_int_int.l0 k y0 y1 y2) (slices_Max_int_int.l0 (k + 1) y0 y1 y2))
  | 0 => fun _ _ _ r h => by simp [slices_Max_int_int.l0] at h
  | k + 1 => by
    have ih0 := slices_Max_int_int.mono_l k
    · intro y0 y1 y2
      unfold slices_Max_int_int.l0
      repeat' with_reducible first
        | exact ih0 ..
        | exact LeO.refl ..
        | exact LeO.none ..
        | refine LeO.ite ?_ ?_
        | refine LeO.bind ?_ (fun _ => ?_)
theorem slices_Max_int_int.mono : ∀ a0 k, LeO (slices_Max_int_int.f k a0) (slices_Max_int_int.f (k + 1) a0) := by
  intro a0 k
  have ih0 := slices_Max_int_int.mono_l k
  unfold slices_Max_int_int.f
  repeat' with_reducible first
    | exact ih0 ..
    | exact LeO.refl ..
    | exact LeO.none ..
    | refine LeO.ite ?_ ?_
    | refine LeO.bind ?_ (fun _ => ?_)
theorem slices_Max_int_int.calls (k : Nat) (A0 : Option Addr) (c0 : Nat) (l0 : List Int) (r : Int) (w : World) (hr0 : Kd.C (Kd.int .i64) w A0 l0.length l0) (hc0 : l0.length ≤ c0) (h : slices_Max_int_int.f k l0 = some r) :
    Calls Tryd.prog 122 #[.slice A0 l0.length c0] w fun e w' => e = .returned (.int .i64 r) ∧ Below w.heap.size w w' := by
  have HR0 := m0 hr0
  have HC0 := m0 hc0
  clear hr0 hc0
  have HB := m0 (Below.refl w.heap.size w)
  have H : (if (l0.length : Int) < 1 then (none) else (if 0 < (l0.length : Int) then (slices_Max_int_int.l0 k l0 (rd l0 0) 1) else (none))) = some r := h
  clear h
  by_cases c2 : (l0.length : Int) < 1
  · rw [if_pos c2] at H
    exact absurd H (by simp)
  · rw [if_neg c2] at H
    have c2b0 := decide_eq_false c2
    have c2b1 : decide (l0.length < 1) = false := decide_eq_false (by omega)
    clear c2
    by_cases c3 : 0 < (l0.length : Int)
    · rw [if_pos c3] at H
      have c3b0 := decide_eq_true c3
      have c3b1 : decide (0 < l0.length) = true := decide_eq_true (by omega)
      clear c3
      have H' := m0 H
      clear H
      have p113 : 0 ≤ (0 : Int) := (by omega)
      have q113 : 0 < (l0.length : Int) := od
      obtain ⟨ad113, e113, hx113_0⟩ := Kd.at_int HR0.out 0 p113 q113
      cases e113
      have qi113 : (0 < l0.length) = True := eq_true (by omega)
      (try rw [show ((0 : Int)).toNat = 0 from rfl] at hx113_0)
      (try rw [Addr.add_zero'] at hx113_0)
      replace p113 := eq_true p113
      replace q113 := eq_true q113
      go_enter Tryd.func122, Tryd.ntmps122
      go_wp2
      go_loopg [3, 4] k (fun kq v3 v4 w' => ∃ (x3_1 : Int) (x4_1 : Int), v3 = .int .i64 x3_1 ∧ v4 = .int .i64 x4_1 ∧ Aside0 (slices_Max_int_int.l0 kq l0 x3_1 x4_1 = some r) ∧ Aside0 (kq ≤ k) ∧ Aside0 (Below w.heap.size w w'))
      case atStart => exact ⟨(rd l0 0), (1), (by first | rfl | (simp; done) | (simp [*]; done)), (by first | rfl | (simp; done) | (simp [*]; done)), H', ⟨Nat.le_refl _⟩, ⟨bz⟩⟩
      case round =>
        clear H'
        try clear hx1
        try clear qi1
        try clear hx113_0
        obtain ⟨x3_1, x4_1, rfl, rfl, HA, HK1, HB⟩ := hrel
        cases gk with
        | zero => exact absurd HA.out (by simp [slices_Max_int_int.l0])
        | succ k1 =>
          have H := HA.out
          clear HA
          simp only [slices_Max_int_int.l0] at H
          by_cases c4 : x4_1 < (l0.length : Int)
          · rw [if_pos c4] at H
            have c4b0 := decide_eq_true c4
            clear c4
            by_cases c5 : 0 ≤ x4_1
            · rw [if_pos c5] at H
              have c5b0 := decide_eq_true c5
              clear c5
              obtain ⟨ji6, hji6⟩ : ∃ j_ : Int, (mx x3_1 (rd l0 x4_1)) = j_ := ⟨_, rfl⟩
              replace H : (slices_Max_int_int.l0 k1 l0 ji6 (wrap64 (x4_1 + 1))) = some r := by first | (rw [hji6] at H; exact H) | (simp only [hji6] at H ⊢; exact H)
              have hji6_ : (if x3_1 < (rd l0 x4_1) then (rd l0 x4_1) else x3_1) = ji6 := hji6
              have H' := m0 H
              clear H
              have p114 : 0 ≤ (x4_1 : Int) := od
              have q114 : x4_1 < (l0.length : Int) := od
              obtain ⟨ad114, e114, hx114_0⟩ := Kd.at_int HR0.out x4_1 p114 q114
              obtain rfl : ad113 = ad114 := (by injection e114)
              replace hx114_0 := (HB.out.cell (World.block_lt_of_cell? w _ hx114_0)).trans hx114_0
              replace p114 := eq_true p114
              replace q114 := eq_true q114
              go_wp2
              go_roundg k1
              case measure => have := HK1.out; omega
              case rel => exact ⟨(ji6), (wrap64 (x4_1 + 1)), (by first | rfl | (simp; done) | (simp only [← hji6] <;> (first | rfl | simp)) | (simp [*]; done)), (by first | rfl | (simp; done) | (simp [*]; done)), H', ⟨by have := HK1.out; omega⟩, ⟨bz⟩⟩
            · rw [if_neg c5] at H
              exact absurd H (by simp)
          · rw [if_neg c4] at H
            have c4b0 := decide_eq_false c4
            clear c4
            obtain rfl := Option.some.inj H
            go_wp2
            go_ret
            exact ez
    · rw [if_neg c3] at H
      exact absurd H (by simp)
end
section
def L_CheckCase.f (k : Nat) (l0_0 : List Int) (l0_1 : List Int) (a0_2 : Int) (a0_3 : Int) : Option (Int) := (L_CheckSpectrum.f l0_0).bind fun bt116 => ((L_CheckNoise.f l0_1).bind fun bt118 => ((L_first.f k (([bt116.2, bt118.2] : List Int))).bind fun t123 => (if t123 = 0 then ((L_cases.f k l0_1 (l0_0.length : Int)).bind fun bt124 => ((slices_Max_int_int.f k l0_0).bind fun t126 => ((L_unless.f (decide (t126 ≤ 9000)) 2).bind fun t127 => ((L_unless.f bt124.2 8).bind fun t128 => ((L_lowestErr.f k a0_2 a0_3 100).bind fun t129 => ((L_first.f k (([t127, t128, t129] : List Int))).bind fun t133 => (some t133))))))) else (none))))
theorem L_CheckCase.mono : ∀ a0 a1 a2 a3 k, LeO (L_CheckCase.f k a0 a1 a2 a3) (L_CheckCase.f (k + 1) a0 a1 a2 a3) := by
 intro a0 a1 a2 a3 k
 unfold L_CheckCase.f
 repeat' with_reducible first
  | exact L_cases.mono ..
  | exact L_first.mono ..
  | exact L_lowestErr.mono ..
  | exact slices_Max_int_int.mono ..
  | exact LeO.refl ..
  | exact LeO.none ..
  | refine LeO.ite ?_ ?_
  | refine LeO.bind ?_ (fun _ => ?_)
def L_CheckCase.T7 : Bool × List (List Nat × List Nat) := (true, [([], []), ([0], [0]), ([1], [1]), ([2], [2]), ([3, 2], [3]), ([], []), ([5, 4], [5]), ([], []), ([7], [7]), ([8, 6], [8]), ([4, 6, 9], [4, 6, 9]), ([10, 9], [10]), ([11, 11, 0, 1, 2, 3, 4, 5, 6, 7, 8, 9, 10, 11], [11])])
def L_CheckCase.B7 : List Nat := [0, 1, 3, 7, 15, 0, 63, 0, 128, 511, 1023, 2047, 4095]
theorem L_CheckCase.tab7 : rtab .any (opsOf Tryd.f53 7) = L_CheckCase.T7 := by kernel_rfl
theorem L_CheckCase.bits7 : waitsOk L_CheckCase.T7.2 L_CheckCase.B7 = true := by kernel_rfl
theorem L_CheckCase.calls (k : Nat) (A0_0 : Option Addr) (c0_0 : Nat) (l0_0 : List Int) (A0_1 : Option Addr) (c0_1 : Nat) (l0_1 : List Int) (a0_2 : Int) (a0_3 : Int) (r : Int) (w : World) (hr0_0 : Kd.C (Kd.int .i64) w A0_0 l0_0.length l0_0) (hc0_0 : l0_0.length ≤ c0_0) (hr0_1 : Kd.C (Kd.int .i64) w A0_1 l0_1.length l0_1) (hc0_1 : l0_1.length ≤ c0_1) (h : L_CheckCase.f k l0_0 l0_1 a0_2 a0_3 = some r) :
  Calls Tryd.prog 53 #[.agg #[.slice A0_0 l0_0.length c0_0, .slice A0_1 l0_1.length c0_1, .int .i64 a0_2, .int .i64 a0_3]] w fun e w' => e = .returned (.int .i64 r) ∧ Below w.heap.size w w' := by
 have hu28 := Tryd.underlying28
 have hu24 := Tryd.underlying24
 have hu26 := Tryd.underlying26
 have HR0_0 := m0 hr0_0
 have HC0_0 := m0 hc0_0
 clear hr0_0 hc0_0
 have HR0_1 := m0 hr0_1
 have HC0_1 := m0 hc0_1
 clear hr0_1 hc0_1
 have HB := m0 (Below.refl w.heap.size w)
 have H : ((L_CheckSpectrum.f l0_0).bind fun bt116 => ((L_CheckNoise.f l0_1).bind fun bt118 => ((L_first.f k (([bt116.2, bt118.2] : List Int))).bind fun t123 => (if t123 = 0 then ((L_cases.f k l0_1 (l0_0.length : Int)).bind fun bt124 => ((slices_Max_int_int.f k l0_0).bind fun t126 => ((L_unless.f (decide (t126 ≤ 9000)) 2).bind fun t127 => ((L_unless.f bt124.2 8).bind fun t128 => ((L_lowestErr.f k a0_2 a0_3 100).bind fun t129 => ((L_first.f k (([t127, t128, t129] : List Int))).bind fun t133 => (some t133))))))) else (none))))) = some r := h
 clear h
 replace H := ob H
 obtain ⟨⟨t116, t117⟩, A2, H⟩ := H
 (try dsimp only at H)
 replace A2 := m0 A2
 replace H := ob H
 obtain ⟨⟨t118, t119⟩, A3, H⟩ := H
 (try dsimp only at H)
 replace A3 := m0 A3
 obtain ⟨y120, hy120⟩ : ∃ y_ : List Int, y_ = (([t117, t119] : List Int)) := ⟨_, rfl⟩
 replace H : ((L_first.f k y120).bind fun t123 => (if t123 = 0 then ((L_cases.f k l0_1 (l0_0.length : Int)).bind fun bt124 => ((slices_Max_int_int.f k l0_0).bind fun t126 => ((L_unless.f (decide (t126 ≤ 9000)) 2).bind fun t127 => ((L_unless.f bt124.2 8).bind fun t128 => ((L_lowestErr.f k a0_2 a0_3 100).bind fun t129 => ((L_first.f k (([t127, t128, t129] : List Int))).bind fun t133 => (some t133))))))) else (none))) = some r := by first | (rw [hy120]; with_reducible exact H) | (have H2_ := (Option.bind_some _ _).symm.trans H; rw [hy120]; with_reducible exact H2_) | (have H2_ := (Option.bind_some _ _).symm.trans H; with_reducible exact H2_) | with_reducible exact H | (rw [hy120]; exact H) | exact H
 have Ny120 := m0 hy120
 clear hy120
 replace H := ob H
 obtain ⟨t123, A4, H⟩ := H
 (try dsimp only at H)
 replace A4 := m0 A4
 by_cases c5 : t123 = 0
 ·rw [if_pos c5] at H
  have c5b0 := beq_iff_eq.mpr c5
  have c5b1 := bne_eq_false_iff_eq.mpr c5
  clear c5
  replace H := ob H
  obtain ⟨⟨t124, t125⟩, A6, H⟩ := H
  (try dsimp only at H)
  replace A6 := m0 A6
  replace H := ob H
  obtain ⟨t126, A7, H⟩ := H
  (try dsimp only at H)
  replace A7 := m0 A7
  replace H := ob H
  obtain ⟨t127, A8, H⟩ := H
  (try dsimp only at H)
  replace A8 := m0 A8
  replace H := ob H
  obtain ⟨t128, A9, H⟩ := H
  (try dsimp only at H)
  replace A9 := m0 A9
  replace H := ob H
  obtain ⟨t129, A10, H⟩ := H
  (try dsimp only at H)
  replace A10 := m0 A10
  obtain ⟨y130, hy130⟩ : ∃ y_ : List Int, y_ = (([t127, t128, t129] : List Int)) := ⟨_, rfl⟩
  replace H : ((L_first.f k y130).bind fun t133 => (some t133)) = some r := by first | (rw [hy130]; with_reducible exact H) | (have H2_ := (Option.bind_some _ _).symm.trans H; rw [hy130]; with_reducible exact H2_) | (have H2_ := (Option.bind_some _ _).symm.trans H; with_reducible exact H2_) | with_reducible exact H | (rw [hy130]; exact H) | exact H
  have Ny130 := m0 hy130
  clear hy130
  replace H := ob H
  obtain ⟨t133, A11, H⟩ := H
  (try dsimp only at H)
  replace A11 := m0 A11
  obtain rfl := Option.some.inj H
  go_enter Tryd.func53, Tryd.ntmps53
  try go_wp2_with (first | ((with_reducible refine gate_dst (N := 1) rfl ?_); refine be 1 28 #[.slice A0_0 l0_0.length c0_0, .slice A0_1 l0_1.length c0_1, .int .i64 a0_2, .int .i64 a0_3] ?_; intro gb115 hg w12 hbox hb; have BK115 := m0 hbox; have GE115 := gw w hg; replace HB := sb HB hb; clear hb hbox hg; obtain ⟨_, _, _, _, _, _, _, _⟩ := b4 BK115) | ((with_reducible refine gate_callee (f := 75) rfl ?_); refine gl (some 12) Tryd.func75 #[.slice A0_0 l0_0.length c0_0] ?_; (with_reducible refine (L_CheckSpectrum.calls _ _ l0_0 t116 t117 _ ?side1 ?side2 A2.out).mono ?_); (case side1 => exact cb HR0_0 HB); (case side2 => exact HC0_0.out); rintro e w14 ⟨rfl, hb⟩; refine ⟨_, rfl, ?_⟩; replace BK115 := bb BK115 hb; replace HB := sb HB hb; (try clear hb); obtain ⟨_, _, _, _, _, _, _, _⟩ := b4 BK115) | ((with_reducible refine gate_callee (f := 51) rfl ?_); refine gl (some 18) Tryd.func51 #[.agg #[.slice A0_1 l0_1.length c0_1]] ?_; (with_reducible refine (L_CheckNoise.calls _ _ l0_1 t118 t119 _ ?side1 ?side2 A3.out).mono ?_); (case side1 => exact cb HR0_1 HB); (case side2 => exact HC0_1.out); rintro e w16 ⟨rfl, hb⟩; refine ⟨_, rfl, ?_⟩; replace BK115 := bb BK115 hb; replace HB := sb HB hb; (try clear hb)) | ((with_reducible refine gate_dst (N := 23) rfl ?_); refine Kd.R_lit (Kd.int .i64) _ 31 ?hg (N := 23) ?hd (xs := ([t117, t119] : List Int)) (inner := [.int .i64 t117, .int .i64 t119]) (ok := fun _ => True) (okp := fun _ => True) ?hr ?hp (fun _ hk => hk) trivial (Below.refl _ _) (Nat.le_refl _) (by simp) ?_; (case hd => rfl); (case hg => rfl); (case hr => first | (go_simp; done) | (go_simp; rfl)); (case hp => exact (Reps.one (show Kd.M (Kd.int .i64) _ _ _ t117 [.int .i64 t117] from rfl) (Reps.one (show Kd.M (Kd.int .i64) _ _ _ t119 [.int .i64 t119] from rfl) (Reps.none _ _)))); intro v121 w17 ho18 hb hg_ hnew_; clear hg_ hnew_; (first | rw [← Ny120.out] at ho18 | (simp only [Int.reduceToNat] at ho18; rw [← Ny120.out] at ho18)); have HO122 := m0 (Kd.R_lower ho18 (below_size bz)); replace BK115 := bb BK115 hb; replace HB := sb HB hb; clear hb ho18; obtain ⟨Ao19, co19, eo19⟩ := Kd.R_slice HO122.out; subst eo19) | ((with_reducible refine gate_callee (f := 91) rfl ?_); refine gl (some 24) Tryd.func91 #[.slice Ao19 y120.length co19] ?_; (with_reducible refine (L_first.calls k _ _ y120 t123 _ ?side1 ?side2 A4.out).mono ?_); (case side1 => exact bc (Kd.R_reads' HO122.out).2.2); (case side2 => exact (Kd.R_reads' HO122.out).2.1); rintro e w' ⟨rfl, ⟨nd, rfl⟩⟩; refine ⟨_, rfl, ?_⟩; obtain ⟨_, _, _, _, _, _, _, _⟩ := b4 BK115) | ((with_reducible refine gate_callee (f := 121) rfl ?_); refine gl (some 34) Tryd.func121 #[.agg #[.slice A0_1 l0_1.length c0_1], .int .i64 (l0_0.length : Int)] ?_; (with_reducible refine (L_cases.calls k _ _ l0_1 (l0_0.length : Int) t124 t125 _ ?side1 ?side2 A6.out).mono ?_); (case side1 => repeat (first | exact (Kd.C_below HR0_1.out bz) | (with_reducible refine Kd.C_alloc ?_ _) | (with_reducible refine Kd.C_drewN ?_ _) | (with_reducible refine Kd.C_drew ?_))); (case side2 => exact HC0_1.out); rintro e w21 ⟨rfl, hb⟩; refine ⟨_, rfl, ?_⟩; replace HO122 := rb HO122 hb; replace BK115 := bb BK115 hb; replace HB := sb HB hb; (try clear hb)))
  replace HO122 := m0 (Kd.R_drew HO122.out); replace BK115 := bd BK115; replace HB := sd HB
  refine start_ (n := 13) (S := fun w' => w'.cell? ⟨gb115, 0, none⟩ = some (.slice A0_0 l0_0.length c0_0) ∧ w'.cell? ⟨gb115, 1, none⟩ = some (.slice A0_1 l0_1.length c0_1) ∧ w'.cell? ⟨gb115, 2, none⟩ = some (.int .i64 a0_2) ∧ w'.cell? ⟨gb115, 3, none⟩ = some (.int .i64 a0_3)) (ds := []) #[false, false, false, false, false, false, false, false, false, false, false, false, false] (by kernel_rfl) rfl rfl cz (fun hH => ?_); refine with_tabW L_CheckCase.tab7 L_CheckCase.bits7 (fun HT_ HW_ => ?_)
  generalize w21.drew = w22 at HO122 BK115 HB hH ⊢
  refine pZ 0 (some 37) (bs 13 1) HT_ ?_
  refine pZ 5 (some 42) (bs 13 33) HT_ ?_
  refine pZ 7 (some 44) (bs 13 161) HT_ ?_
  refine takeZ 1 (some 38) (bs 13 163) (take_ofW HT_.out HW_.out (by kernel_rfl)) hH ?_
  refine takeZ 8 (some 45) (bs 13 419) (take_ofW HT_.out HW_.out (by kernel_rfl)) hH ?_
  refine oneZ 2 (some 39) (bs 13 423) (one_of HT_.out (by kernel_rfl)) fun K hK => ?_
  refine gz Tryd.func122 #[.slice A0_0 l0_0.length c0_0] ?_
  with_reducible refine (slices_Max_int_int.calls k _ _ l0_0 t126 _ ?side1 ?side2 A7.out).mono ?_
  (case side1 => exact cb HR0_0 HB)
  (case side2 => exact HC0_0.out)
  rintro e w23 ⟨rfl, hb⟩
  refine ⟨_, rfl, ?_⟩
  replace HO122 := rb HO122 hb; replace BK115 := bb BK115 hb; replace HB := sb HB hb
  (try clear hb)
  refine hK.out _ _ cz (fun hH => ?_)
  clear hK K
  refine norm_ (a' := ?_) ?_ ?_
  rotate_left
  ·show Act.put _ (some 39) _ = _
   exact pz
  refine pZ 3 (some 40) (bs 13 431) HT_ ?_
  refine oneZ 4 (some 41) (bs 13 447) (one_of HT_.out (by kernel_rfl)) fun K hK => ?_
  refine gz Tryd.func93 #[.bool (decide (t126 ≤ 9000)), .int .i64 2] ?_
  with_reducible refine (L_unless.calls (decide (t126 ≤ 9000)) 2 t127 _ A8.out).mono ?_
  rintro e w' ⟨rfl, ⟨nd, rfl⟩⟩
  refine ⟨_, rfl, ?_⟩
  refine hK.out _ _ cz (fun hH => ?_)
  clear hK K
  refine norm_ (a' := ?_) ?_ ?_
  rotate_left
  ·show Act.put _ (some 41) _ = _
   exact pz
  refine oneZ 6 (some 43) (bs 13 511) (one_of HT_.out (by kernel_rfl)) fun K hK => ?_
  refine gz Tryd.func93 #[.bool t125, .int .i64 8] ?_
  with_reducible refine (L_unless.calls t125 8 t128 _ A9.out).mono ?_
  rintro e w' ⟨rfl, ⟨nd, rfl⟩⟩
  refine ⟨_, rfl, ?_⟩
  refine hK.out _ _ cz (fun hH => ?_)
  clear hK K
  refine norm_ (a' := ?_) ?_ ?_
  rotate_left
  ·show Act.put _ (some 43) _ = _
   exact pz
  refine oneZ 9 (some 46) (bs 13 1023) (one_of HT_.out (by kernel_rfl)) fun K hK => ?_
  refine gz Tryd.func109 #[.agg #[.int .i64 a0_2, .int .i64 a0_3], .int .i64 100] ?_
  with_reducible refine (L_lowestErr.calls k a0_2 a0_3 100 t129 _ A10.out).mono ?_
  rintro e w24 ⟨rfl, hb⟩
  refine ⟨_, rfl, ?_⟩
  replace HO122 := rb HO122 hb; replace BK115 := bb BK115 hb; replace HB := sb HB hb
  (try clear hb)
  refine hK.out _ _ cz (fun hH => ?_)
  clear hK K
  refine norm_ (a' := ?_) ?_ ?_
  rotate_left
  ·show Act.put _ (some 46) _ = _
   exact pz
  refine oneZ 10 (some 47) (bs 13 2047) (one_of HT_.out (by kernel_rfl)) fun K hK => ?_
  refine Kd.R_lit_step (Kd.int .i64) _ 31 ?hg (N := 47) ?hd (xs := ([t127, t128, t129] : List Int)) (inner := [.int .i64 t127, .int .i64 t128, .int .i64 t129]) (ok := fun _ => True) (okp := fun _ => True) ?hr ?hp (fun _ hk => hk) trivial (Below.refl _ _) (Nat.le_refl _) (by simp) ?_; (case hd => rfl); (case hg => rfl); (case hr => first | (go_simp; done) | (go_simp; rfl)); (case hp => exact (Reps.one (show Kd.M (Kd.int .i64) _ _ _ t127 [.int .i64 t127] from rfl) (Reps.one (show Kd.M (Kd.int .i64) _ _ _ t128 [.int .i64 t128] from rfl) (Reps.one (show Kd.M (Kd.int .i64) _ _ _ t129 [.int .i64 t129] from rfl) (Reps.none _ _)))))
  intro v131 w25 ho26 hb hg_ hnew_
  clear hg_ hnew_
  (first | rw [← Ny130.out] at ho26 | (simp only [Int.reduceToNat] at ho26; rw [← Ny130.out] at ho26))
  have HO132 := m0 (Kd.R_lower (Kd.R_new' ho26 (Kd.R_lt (br HO122.out))) (below_size bz)); replace HO122 := m0 (Kd.R_elder' (br HO122.out) (Kd.R_base ho26) hb); replace BK115 := bb BK115 hb; replace HB := sb HB hb
  clear hb ho26
  obtain ⟨Ao27, co27, eo27⟩ := Kd.R_slice HO132.out
  subst eo27
  refine hK.out _ _ cz (fun hH => ?_)
  clear hK K
  refine norm_ (a' := ?_) ?_ ?_
  rotate_left
  ·show Act.put _ (some 47) _ = _
   exact pz
  refine oneZ 11 (some 48) (bs 13 4095) (one_of HT_.out (by kernel_rfl)) fun K hK => ?_
  refine gz Tryd.func91 #[.slice Ao27 y130.length co27] ?_
  with_reducible refine (L_first.calls k _ _ y130 t133 _ ?side1 ?side2 A11.out).mono ?_
  (case side1 => exact bc (Kd.R_reads' HO132.out).2.2)
  (case side2 => exact (Kd.R_reads' HO132.out).2.1)
  rintro e w' ⟨rfl, ⟨nd, rfl⟩⟩
  refine ⟨_, rfl, ?_⟩
  refine hK.out _ _ cz (fun hH => ?_)
  clear hK K
  refine norm_ (a' := ?_) ?_ ?_
  rotate_left
  ·show Act.put _ (some 48) _ = _
   exact pz
  refine pZ 12 (some 2) (bs 13 8191) HT_ ?_
  refine done_ (done_of HT_.out (by kernel_rfl)) ?_
  try go_wp2
  go_ret
  exact ez
 ·rw [if_neg c5] at H
  exact absurd H (by simp)
end
section
def L_kindErr.f (a0 : Int) : Option (Int) := (L_within.f a0 0 3).bind fun t134 => ((L_unless.f t134 14).bind fun t135 => (some t135))
theorem L_kindErr.calls (a0 : Int) (r : Int) (w : World) (h : L_kindErr.f a0 = some r) :
  Calls Tryd.prog 92 #[.int .i64 a0] w fun e w' => e = .returned (.int .i64 r) ∧ Drawn0 w w' := by
 have H : ((L_within.f a0 0 3).bind fun t134 => ((L_unless.f t134 14).bind fun t135 => (some t135))) = some r := h
 clear h
 replace H := ob H
 obtain ⟨t134, A2, H⟩ := H
 (try dsimp only at H)
 replace A2 := m0 A2
 replace H := ob H
 obtain ⟨t135, A3, H⟩ := H
 (try dsimp only at H)
 replace A3 := m0 A3
 obtain rfl := Option.some.inj H
 go_enter Tryd.func92, Tryd.ntmps92
 go_wp2_with (first | ((with_reducible refine gate_callee (f := 105) rfl ?_); refine gl (some 4) Tryd.func105 #[.int .i64 a0, .int .i64 0, .int .i64 3] ?_; (with_reducible refine (L_within.calls a0 0 3 t134 _ A2.out).mono ?_); rintro e w' ⟨rfl, ⟨nd, rfl⟩⟩; refine ⟨_, rfl, ?_⟩) | ((with_reducible refine gate_callee (f := 93) rfl ?_); refine gl (some 5) Tryd.func93 #[.bool t134, .int .i64 14] ?_; (with_reducible refine (L_unless.calls t134 14 t135 _ A3.out).mono ?_); rintro e w' ⟨rfl, ⟨nd, rfl⟩⟩; refine ⟨_, rfl, ?_⟩))
 go_ret
 exact ⟨by first | rfl | (simp; done) | (simp [*]; done), by repeat (first | exact Drawn0.refl _ | apply Drawn0.step)⟩
end
end Go.Proofs.YtjnkphmcndaijaaDoor.A
