/- Walks of the program's functions (printed, made shorter), each with what it computes. -/
import Derived.Test.YtjnkphmcndaijaaDoorProg
import Derived.Below
import Derived.Deep.Draws
import Derived.Deep.AppendLies
import Derived.Maps.AppendAt
import Derived.OwnWalk
import Derived.Laws.BytesArg
import Derived.Laws.MakeOwn
import Derived.Laws.OwnMore
import Derived.Deep.OwnRows
import Derived.Tactics
import Derived.Lib.ConvBytes
import Derived.Laws.Slices
import Derived.WalkKit
import Derived.KernelRfl
import Derived.RowKit3
import Derived.Deep.LoopGhost
import Derived.Deep.QuietTactic
import Derived.BigQuiet
import Derived.WideLaws
import Derived.Deep.DeepCutAuto
import Derived.Deep.CutBlock
import Derived.Deep.RegionHeld3
import Derived.Laws.Rows
import Derived.Lib.AppendStr
import Derived.ArgAppend
import Derived.Laws.IdiomCopy
import Derived.OrdersHeld
import Derived.Laws.BitsLemmas
import Derived.RowKit
import Derived.RangeFuncLeaves
import Derived.RangeFuncOwn
import Derived.Test.YtjnkphmcndaijaaDoorBes01
import Derived.Test.YtjnkphmcndaijaaDoorBes02
import Derived.Test.YtjnkphmcndaijaaDoorBes03
namespace Go.Proofs.YtjnkphmcndaijaaDoor.A
set_option maxHeartbeats 8000000
set_option maxRecDepth 100000
open Go.RowKit Go.Proofs.YtjnkphmcndaijaaDoorW.PrintWords Go.Proofs.YtjnkphmcndaijaaDoorW.PrintLast Go.Proofs.YtjnkphmcndaijaaDoorW.PrintMore
attribute [local go_sem] max2_int min2_int max_two min_two max_three min_three max_four min_four
set_option linter.unusedVariables false
set_option linter.unusedSimpArgs false
section
def errW : Option Int → Value
  | none => .nilIface
  | some c => .iface 0 (.int .i64 c)
theorem errW_none : errW none = .nilIface := rfl
theorem errW_some (c : Int) : errW (some c) = .iface 0 (.int .i64 c) := rfl
theorem ret_int {k : IntKind} {a b : Int} (h : a = b) : Ending.returned (.int k a) = Ending.returned (.int k b) := by rw [h]
theorem ret_bool {a b : Bool} (h : a = b) : Ending.returned (.bool a) = Ending.returned (.bool b) := by rw [h]
def PredI (g : Nat) (lb : Array Value) (p : Int → Bool) (w : World) : Prop :=
  ∀ (W : World) (x : Int), Below w.heap.size w W → Calls Tryd.prog g (#[.int .i64 x] ++ lb) W fun e w' => e = .returned (.bool (p x)) ∧ ∃ q, w' = W.drewN q
def idxF (p : Int → Bool) (l : List Int) : Int := match l.findIdx? p with | some i => (i : Int) | none => -1
theorem idxF_hit (p : Int → Bool) (l : List Int) (k : Nat) (h : k < l.length) (hp : p (rd l k) = true) (h0 : ∀ j, j < k → p (rd l j) = false) : idxF p l = k := by
  have : l.findIdx? p = some k := by
    rw [List.findIdx?_eq_some_iff_getElem]
    refine ⟨h, ?_, fun j hj => ?_⟩
    · simpa [rd, List.getD_eq_getElem?_getD, List.getElem?_eq_getElem h] using hp
    · have := h0 j hj
      have hj' : j < l.length := Nat.lt_trans hj h
      simpa [rd, List.getD_eq_getElem?_getD, List.getElem?_eq_getElem hj'] using this
  simp [idxF, this]
theorem idxF_miss (p : Int → Bool) (l : List Int) (h0 : ∀ j, j < l.length → p (rd l j) = false) : idxF p l = -1 := by
  have : l.findIdx? p = none := by
    rw [List.findIdx?_eq_none_iff]
    intro x hx
    obtain ⟨j, hj, rfl⟩ := List.getElem_of_mem hx
    simpa [rd, List.getD_eq_getElem?_getD, List.getElem?_eq_getElem hj] using h0 j hj
  simp [idxF, this]
def EstG (w : World) : Prop := w.cell? ⟨0, 0, none⟩ = some (.func (.func 192) #[] #[]) ∧ w.cell? ⟨0, 1, none⟩ = some (.func (.func 193) #[] #[]) ∧ w.cell? ⟨0, 2, none⟩ = some (.func (.func 194) #[] #[]) ∧ w.cell? ⟨0, 3, none⟩ = some (.func (.func 195) #[] #[])
theorem EstG.below {w w' : World} (h : EstG w) (hb : Below w.heap.size w w') : EstG w' :=
  ⟨pw_cell_below hb h.1, pw_cell_below hb h.2.1, pw_cell_below hb h.2.2.1, pw_cell_below hb h.2.2.2⟩
def iterN {σ : Type} (step : Nat → σ → Option σ) : Nat → σ → Option σ
  | 0, s => some s
  | N + 1, s => (iterN step N s).bind (step N)
theorem iterN_mono {σ : Type} {f g : Nat → σ → Option σ} (h : ∀ j s, LeO (f j s) (g j s)) (N : Nat) (s : σ) : LeO (iterN f N s) (iterN g N s) := by
  induction N with
  | zero => exact LeO.refl _
  | succ N ih => exact LeO.bind ih (fun x => h N x)
theorem iterN_pre {σ : Type} {f : Nat → σ → Option σ} {N k : Nat} {s r : σ} (h : iterN f N s = some r) (hk : k ≤ N) : ∃ q, iterN f k s = some q := by
  induction N generalizing r with
  | zero => obtain rfl : k = 0 := by omega
            exact ⟨_, h⟩
  | succ N ih =>
    obtain ⟨q, hq, _⟩ := Option.bind_eq_some_iff.mp h
    by_cases e : k = N + 1
    · subst e; exact ⟨_, h⟩
    · exact ih hq (by omega)
theorem iterN_at {σ : Type} {f : Nat → σ → Option σ} {N k : Nat} {s r q : σ} (h : iterN f N s = some r) (hk : k < N) (hq : iterN f k s = some q) : ∃ q', f k q = some q' ∧ iterN f (k + 1) s = some q' := by
  obtain ⟨q', hq'⟩ := iterN_pre h (show k + 1 ≤ N by omega)
  have : (iterN f k s).bind (f k) = some q' := hq'
  rw [hq] at this
  exact ⟨q', this, hq'⟩
theorem C_putObj {k : IntKind} {A : Option Addr} {n l : Nat} {xs : List Int} {W : World} {o o' : Obj} (hl : W.heap[l]? = some o) (ho : o.isCells = false) (h : Kd.C (Kd.int k) W A n xs) : Kd.C (Kd.int k) (W.putObj l o') A n xs := by
  refine ⟨h.1, h.2.1, fun hn => ?_⟩
  obtain ⟨ad, e, hc⟩ := h.2.2 hn
  refine ⟨ad, e, fun j p hp => ?_⟩
  obtain ⟨c, h1, h2, h3⟩ := hc j p hp
  exact ⟨c, h1, h2, fun i u hu => cell_kept (h3 i u hu) (grownBy_putObj' W l o') (fun r e => by cases e; exact ⟨o, hl, ho⟩)⟩
theorem idxF_any (p : Int → Bool) (l : List Int) : decide (0 ≤ idxF p l) = l.any p := by
  unfold idxF
  cases h : l.findIdx? p with
  | none =>
    rw [List.findIdx?_eq_none_iff] at h
    have : l.any p = false := by rw [List.any_eq_false]; exact fun x hx => by simp [h x hx]
    rw [this]; rfl
  | some i =>
    rw [List.findIdx?_eq_some_iff_getElem] at h
    obtain ⟨hi, hp, _⟩ := h
    have : l.any p = true := List.any_eq_true.mpr ⟨_, List.getElem_mem hi, hp⟩
    rw [this]
    simp
def QM (n : Nat) (P : Program) (fn : Func) (R : Ending → World → Prop) : Exit → Act → World → Prop
  | .normal, a, w => bodyPostM Fence.wide n P fn R .normal a w
  | .ret, a, w => bodyPostM Fence.wide n P fn R .ret a w
  | _, _, _ => False
theorem QM.le {n : Nat} {P : Program} {fn : Func} {R : Ending → World → Prop} {e : Exit} {a : Act} {w : World} (h : QM n P fn R e a w) : bodyPostM Fence.wide n P fn R e a w := by
  cases e with
  | normal => exact h
  | ret => exact h
  | _ => exact h.elim
theorem bodyPostM_ret {n : Nat} {P : Program} {fn : Func} {R : Ending → World → Prop} {tmps : Array Value} {w : World} {v : Value} (hr : (results fn tmps).run P w = .ok v w) (_ : ([] : List Deferred) = []) (hR : R (.returned v) w) :
    QM n P fn R .ret { tmps := tmps, defers := [] } w := ⟨v, hr, hR⟩
theorem info3 : (Tryd.prog.info? 3).map (fun i => (i.zero, i.size, i.bytes)) = some (some (.int .i64 0), 1, 8) := by kernel_rfl
theorem info22 : (Tryd.prog.info? 22).map (fun i => (i.zero, i.size, i.bytes)) = some (some (.slice none 0 0), 1, 24) := by kernel_rfl
theorem info31 : (Tryd.prog.info? 31).map (fun i => (i.zero, i.size, i.bytes)) = some (some (.int .i64 0), 1, 8) := by kernel_rfl
def rd_L1 (xs : List (List Int)) (i : Int) : (List Int) := xs.getD i.toNat ([] : List Int)
theorem at_L1 {w : World} {A : Option Addr} {n : Nat} {xs : List (List Int)} (h : Kd.C (Kd.slice 3 (Kd.int .i64)) w A n xs) (i : Int) (h0 : 0 ≤ i) (h1 : i < n) : ∃ ad A0 c0, A = some ad ∧ w.cell? (ad.add i.toNat) = some (.slice A0 (rd_L1 xs i).length c0) ∧ (rd_L1 xs i).length ≤ c0 ∧ (Kd.int .i64).C w A0 (rd_L1 xs i).length (rd_L1 xs i) := by
  obtain ⟨ad, c, e, _, hK, hc0⟩ := Kd.C_get h ([] : List Int) i h0 h1
  have hc : ∀ j u, c[j]? = some u → w.cell? (ad.add (i.toNat * 1 + j)) = some u := hc0
  obtain ⟨A0, c0, rfl, l0, g0⟩ := hK
  exact ⟨ad, A0, c0, e, by have hq := hc 0 _ rfl; rwa [Nat.mul_one, Nat.add_zero] at hq, l0, g0⟩
end
section
theorem eqA26 (d : Nat) (w : World) (x0 y0 : Int) (x1 y1 : Int) :
  (Op.equalIn (d + 2) 26 (.agg #[.int .i64 x0, .int .i64 x1]) (.agg #[.int .i64 y0, .int .i64 y1])).run Tryd.prog w = .ok (x0 == y0 && (x1 == y1)) w := by
 refine eqA_of Tryd.underlying26 (by kernel_rfl) ?_
 refine eqf_cons (by rfl) (by go_simp; rfl) (by go_simp; rfl) (by go_simp) ?_
 exact eqf_last (by rfl) (by go_simp; rfl) (by go_simp; rfl) (by go_simp)
end
section
theorem eqA36 (d : Nat) (w : World) (x0 y0 : Int) (x1 y1 : Int) (x2 y2 : Int) :
  (Op.equalIn (d + 3) 36 (.agg #[.int .i64 x0, .int .i64 x1, .int .i64 x2]) (.agg #[.int .i64 y0, .int .i64 y1, .int .i64 y2])).run Tryd.prog w = .ok ((x0 == y0 && (x1 == y1)) && (x2 == y2)) w := by
 refine eqA_of Tryd.underlying36 (by kernel_rfl) ?_
 refine eqf_cons (by rfl) (by go_simp) (by go_simp) (eqA26 (d + 0) w _ _ _ _) ?_
 exact eqf_last (by rfl) (by go_simp; rfl) (by go_simp; rfl) (by go_simp)
end
section
def line_cases.l0 : Nat → Int → Int → Int → List Int → Option (Int × Bool)
 | 0, _, _, _, _ => none
 | k + 1, x6, x7, x8, x113000 => if x8 < x7 then (if (wrap64 (x6 * (x113000.length : Int))) > 4096 then (some (0, false)) else (line_cases.l0 k (wrap64 (x6 * (x113000.length : Int))) x7 (wrap64 (x8 + 1)) x113000)) else (some (x6, true))
def line_cases.f (k : Nat) (l0_0 : List Int) (a1 : Int) : Option (Int × Bool) := line_cases.l0 k 1 a1 0 l0_0
theorem line_cases.mono_l : ∀ k, (∀ y0 y1 y2 y3, LeO (line_cases.l0 k y0 y1 y2 y3) (line_cases.l0 (k + 1) y0 y1 y2 y3))
 | 0 => fun _ _ _ _ r h => by simp [line_cases.l0] at h
 | k + 1 => by
  have ih0 := line_cases.mono_l k
  ·intro y0 y1 y2 y3
   unfold line_cases.l0
   repeat' first
   | (with_reducible exact ih0 _ _ _ _)
   | (with_reducible exact LeO.refl _)
   | (with_reducible exact LeO.none _)
   | (with_reducible refine LeO.ite ?_ ?_)
   | (with_reducible refine LeO.bind ?_ (fun _ => ?_))
   | exact ih0 _ _ _ _
   | exact LeO.none _
   | refine LeO.ite ?_ ?_
   | refine LeO.bind ?_ (fun _ => ?_)
theorem line_cases.mono : ∀ a0 a1 k, LeO (line_cases.f k a0 a1) (line_cases.f (k + 1) a0 a1) := by
 intro a0 a1 k
 have ih0 := line_cases.mono_l k
 unfold line_cases.f
 repeat' first
   | (with_reducible exact ih0 _ _ _ _)
   | (with_reducible exact LeO.refl _)
   | (with_reducible exact LeO.none _)
   | (with_reducible refine LeO.ite ?_ ?_)
   | (with_reducible refine LeO.bind ?_ (fun _ => ?_))
   | exact ih0 _ _ _ _
   | exact LeO.none _
   | refine LeO.ite ?_ ?_
   | refine LeO.bind ?_ (fun _ => ?_)
theorem line_cases.calls (k : Nat) (A0_0 : Option Addr) (c0_0 : Nat) (l0_0 : List Int) (a1 : Int) (r1 : Int) (r2 : Bool) (w : World) (hr0_0 : Kd.C (Kd.int .i64) w A0_0 l0_0.length l0_0) (hc0_0 : l0_0.length ≤ c0_0) (h : line_cases.f k l0_0 a1 = some (r1, r2)) :
  Calls Tryd.prog 121 #[.agg #[.slice A0_0 l0_0.length c0_0], .int .i64 a1] w fun e w' => e = .returned (.tuple #[.int .i64 r1, .bool r2]) ∧ Below w.heap.size w w' := by
 have hu24 := Tryd.underlying24
 have HR0_0 := m0 hr0_0
 have HC0_0 := m0 hc0_0
 clear hr0_0 hc0_0
 have HB := m0 (Below.refl w.heap.size w)
 have H : (line_cases.l0 k 1 a1 0 l0_0) = some (r1, r2) := h
 clear h
 have H' := m0 H
 clear H
 go_enter Tryd.func121, Tryd.ntmps121
 go_wp2_with (first | ((with_reducible refine gate_dst (N := 2) rfl ?_); refine be 2 24 #[.slice A0_0 l0_0.length c0_0] ?_; intro gb112 hg w3 hbox hb; have BK112 := m0 hbox; have GW112 := m0 (bg (n := w.heap.size) hg); have GE112 := m0 (bg (n := w.heap.size) hg); replace HB := sb HB hb; clear hb hbox hg))
 go_loopg [6, 8] k (fun kq v6 v8 w' => ∃ (x6_1 : Int) (x8_1 : Int), v6 = .int .i64 x6_1 ∧ v8 = .int .i64 x8_1 ∧ Aside0 (line_cases.l0 kq x6_1 a1 x8_1 l0_0 = some (r1, r2)) ∧ Aside0 (kq ≤ k) ∧ Aside0 (w'.heap[gb112]? = some (.cells #[(.slice A0_0 l0_0.length c0_0)] 24 (0, 0))) ∧ Aside0 (Below w.heap.size w w'))
 case atStart => exact ⟨(1), (0), (by first | rfl | (simp; done) | (simp [*]; done)), (by first | rfl | (simp; done) | (simp [*]; done)), H', ⟨Nat.le_refl _⟩, ⟨bk BK112.out⟩, ⟨bz⟩⟩
 case round =>
  clear H'
  try clear c1
  try clear p2
  obtain ⟨x6_1, x8_1, rfl, rfl, HA, HK1, BK112, HB⟩ := hrel
  cases gk with
  | zero => exact absurd HA.out (by simp [line_cases.l0])
  | succ k1 =>
   have H := HA.out
   clear HA
   simp only [line_cases.l0] at H
   by_cases c4 : x8_1 < a1
   ·rw [if_pos c4] at H
    have c4b0 := decide_eq_true c4
    clear c4
    by_cases c5 : (wrap64 (x6_1 * (l0_0.length : Int))) > 4096
    ·rw [if_pos c5] at H
     have c5b0 := decide_eq_true c5
     clear c5
     simp only [Option.some.injEq, Prod.mk.injEq] at H
     obtain ⟨rfl, rfl⟩ := H
     obtain ⟨_, _⟩ := b1 BK112
     go_wp2
     go_ret2
     exact ez
    ·rw [if_neg c5] at H
     have c5b0 := decide_eq_false c5
     clear c5
     have H' := m0 H
     clear H
     obtain ⟨_, _⟩ := b1 BK112
     go_wp2
     go_roundg k1
     case measure => have := HK1.out; omega
     case rel => exact ⟨(wrap64 (x6_1 * (l0_0.length : Int))), (wrap64 (x8_1 + 1)), (by first | rfl | (simp; done) | (simp [*]; done)), (by first | rfl | (simp; done) | (simp [*]; done)), H', ⟨by have := HK1.out; omega⟩, ⟨bk BK112.out⟩, ⟨bz⟩⟩
   ·rw [if_neg c4] at H
    have c4b0 := decide_eq_false c4
    clear c4
    simp only [Option.some.injEq, Prod.mk.injEq] at H
    obtain ⟨rfl, rfl⟩ := H
    go_wp2
    go_ret2
    exact ez
end
section
def line_noisy.l0 : Nat → Int → List Int → List Int → Int → Int → List Int → Option (List Int)
 | 0, _, _, _, _, _, _ => none
 | k + 1, x2, x7, x10, x11, x12, x137000 => if x12 < x11 then (if 0 ≤ x12 then (if x12 < (x10.length : Int) then (if (x137000.length : Int) = 0 then (none) else (if 0 ≤ (Int.tmod x2 (x137000.length : Int)) then (if (Int.tmod x2 (x137000.length : Int)) < (x137000.length : Int) then (if x7.length < 17592186044416 then (line_noisy.l0 k (wrap64 (Int.tdiv x2 (x137000.length : Int))) (x7 ++ [wrap64 ((rd x10 x12) + (rd x137000 (Int.tmod x2 (x137000.length : Int))))]) x10 x11 (wrap64 (x12 + 1)) x137000) else (none)) else (none)) else (none))) else (none)) else (none)) else (some x7)
def line_noisy.f (k : Nat) (l0 : List Int) (l1_0 : List Int) (a2 : Int) : Option (List Int) := line_noisy.l0 k a2 ([] : List Int) l0 (l0.length : Int) 0 l1_0
theorem line_noisy.mono_l : ∀ k, (∀ y0 y1 y2 y3 y4 y5, LeO (line_noisy.l0 k y0 y1 y2 y3 y4 y5) (line_noisy.l0 (k + 1) y0 y1 y2 y3 y4 y5))
 | 0 => fun _ _ _ _ _ _ r h => by simp [line_noisy.l0] at h
 | k + 1 => by
  have ih0 := line_noisy.mono_l k
  ·intro y0 y1 y2 y3 y4 y5
   unfold line_noisy.l0
   repeat' first
   | (with_reducible exact ih0 _ _ _ _ _ _)
   | (with_reducible exact LeO.refl _)
   | (with_reducible exact LeO.none _)
   | (with_reducible refine LeO.ite ?_ ?_)
   | (with_reducible refine LeO.bind ?_ (fun _ => ?_))
   | exact ih0 _ _ _ _ _ _
   | exact LeO.none _
   | refine LeO.ite ?_ ?_
   | refine LeO.bind ?_ (fun _ => ?_)
theorem line_noisy.mono : ∀ a0 a1 a2 k, LeO (line_noisy.f k a0 a1 a2) (line_noisy.f (k + 1) a0 a1 a2) := by
 intro a0 a1 a2 k
 have ih0 := line_noisy.mono_l k
 unfold line_noisy.f
 repeat' first
   | (with_reducible exact ih0 _ _ _ _ _ _)
   | (with_reducible exact LeO.refl _)
   | (with_reducible exact LeO.none _)
   | (with_reducible refine LeO.ite ?_ ?_)
   | (with_reducible refine LeO.bind ?_ (fun _ => ?_))
   | exact ih0 _ _ _ _ _ _
   | exact LeO.none _
   | refine LeO.ite ?_ ?_
   | refine LeO.bind ?_ (fun _ => ?_)
def line_noisy.T5 : Bool × List (List Nat × List Nat) := (true, [([], []), ([], []), ([], []), ([2], [2]), ([], []), ([], []), ([5], [5]), ([6], [6]), ([4, 7], [4, 7]), ([3, 8], [3, 8]), ([9], [9]), ([1, 10], [1, 10]), ([11], [11]), ([0, 12], [0, 12]), ([13, 13, 0, 1, 2, 3, 4, 5, 6, 7, 8, 9, 10, 11, 12, 13], [0, 13])])
def line_noisy.B5 : List Nat := [0, 0, 0, 4, 0, 0, 32, 96, 240, 508, 1020, 2046, 4094, 8191, 16383]
theorem line_noisy.tab5 : rtab .any (opsOf Tryd.f123 5) = line_noisy.T5 := by kernel_rfl
theorem line_noisy.bits5 : waitsOk line_noisy.T5.2 line_noisy.B5 = true := by kernel_rfl
theorem line_noisy.calls (k : Nat) (A0 : Option Addr) (c0 : Nat) (l0 : List Int) (A1_0 : Option Addr) (c1_0 : Nat) (l1_0 : List Int) (a2 : Int) (r : List Int) (w : World) (hr0 : Kd.C (Kd.int .i64) w A0 l0.length l0) (hc0 : l0.length ≤ c0) (hr1_0 : Kd.C (Kd.int .i64) w A1_0 l1_0.length l1_0) (hc1_0 : l1_0.length ≤ c1_0) (h : line_noisy.f k l0 l1_0 a2 = some r) :
  Calls Tryd.prog 123 #[.slice A0 l0.length c0, .agg #[.slice A1_0 l1_0.length c1_0], .int .i64 a2] w fun e w' => ∃ v0_ : Value, e = .returned (v0_) ∧ Kd.R (Kd.int .i64) 3 w' w.heap.size (fun _ => True) v0_ r ∧ Below w.heap.size w w' := by
 have hu24 := Tryd.underlying24
 have HR0 := m0 hr0
 have HC0 := m0 hc0
 clear hr0 hc0
 have HR1_0 := m0 hr1_0
 have HC1_0 := m0 hc1_0
 clear hr1_0 hc1_0
 have HB := m0 (Below.refl w.heap.size w)
 have H : (line_noisy.l0 k a2 ([] : List Int) l0 (l0.length : Int) 0 l1_0) = some r := h
 clear h
 have H' := m0 H
 clear H
 go_enter Tryd.func123, Tryd.ntmps123
 go_wp2_with (first | ((with_reducible refine gate_dst (N := 4) rfl ?_); refine be 4 24 #[.slice A1_0 l1_0.length c1_0] ?_; intro gb136 hg w4 hbox hb; have BK136 := m0 hbox; have GW136 := m0 (bg (n := w.heap.size) hg); have GE136 := m0 (bg (n := w.heap.size) hg); replace HB := sb HB hb; clear hb hbox hg))
 go_loopg [2, 7, 12] k (fun kq v2 v7 v12 w' => ∃ (x2_1 : Int) (x7_1 : List Int) (x12_1 : Int), v2 = .int .i64 x2_1 ∧ v12 = .int .i64 x12_1 ∧ Aside0 (line_noisy.l0 kq x2_1 x7_1 l0 (l0.length : Int) x12_1 l1_0 = some r) ∧ Aside0 (kq ≤ k) ∧ Aside0 (Kd.R (Kd.int .i64) 3 w' w.heap.size (fun _ => True) v7 x7_1) ∧ Aside0 (w'.heap[gb136]? = some (.cells #[(.slice A1_0 l1_0.length c1_0)] 24 (0, 0))) ∧ Aside0 (Below w.heap.size w w'))
 case atStart => exact ⟨(a2), (([] : List Int)), (0), (by first | rfl | (simp; done) | (simp [*]; done)), (by first | rfl | (simp; done) | (simp [*]; done)), H', ⟨Nat.le_refl _⟩, ⟨by first | exact Kd.R_nil _ _ _ _ _ | exact Kd.N_nil _ _ _ _ _ | exact Kd.V_nil _ _ _ _ _ | exact Kd.Q_nil _ _ _ _ _ | exact Kd.S_nil _ _ _ _ _⟩, ⟨bk BK136.out⟩, ⟨bz⟩⟩
 case round =>
  clear H'
  try clear c1
  try clear p2
  obtain ⟨x2_1, x7_1, x12_1, rfl, rfl, HA, HK1, HO_7, BK136, HB⟩ := hrel
  cases gk with
  | zero => exact absurd HA.out (by simp [line_noisy.l0])
  | succ k1 =>
   have H := HA.out
   clear HA
   simp only [line_noisy.l0] at H
   by_cases c5 : x12_1 < (l0.length : Int)
   ·rw [if_pos c5] at H
    have c5b0 := decide_eq_true c5
    clear c5
    by_cases c6 : 0 ≤ x12_1
    ·rw [if_pos c6] at H
     have c6b0 := decide_eq_true c6
     clear c6
     by_cases c7 : x12_1 < (l0.length : Int)
     ·rw [if_pos c7] at H
      have c7b0 := decide_eq_true c7
      clear c7
      by_cases c8 : (l1_0.length : Int) = 0
      ·rw [if_pos c8] at H
       exact absurd H (by simp)
      ·rw [if_neg c8] at H
       have c8b0 := beq_eq_false_iff_ne.mpr c8
       have c8b1 := bne_iff_ne.mpr c8
       have c8b2 : ¬ (l1_0 = []) := fun h_ => c8 (by rw [h_]; rfl)
       obtain ⟨ji9, hji9⟩ : ∃ j_ : Int, (Int.tmod x2_1 (l1_0.length : Int)) = j_ := ⟨_, rfl⟩
       replace H : (if 0 ≤ (ji9) then (if (ji9) < (l1_0.length : Int) then (if x7_1.length < 17592186044416 then (line_noisy.l0 k1 (wrap64 (Int.tdiv x2_1 (l1_0.length : Int))) (x7_1 ++ [wrap64 ((rd l0 x12_1) + (rd l1_0 (ji9)))]) l0 (l0.length : Int) (wrap64 (x12_1 + 1)) l1_0) else (none)) else (none)) else (none)) = some r := by first | (rw [hji9] at H; exact H) | (simp only [hji9] at H ⊢; exact H)
       by_cases c10 : 0 ≤ (ji9)
       ·rw [if_pos c10] at H
        have c10b0 := decide_eq_true c10
        clear c10
        by_cases c11 : (ji9) < (l1_0.length : Int)
        ·rw [if_pos c11] at H
         have c11b0 := decide_eq_true c11
         clear c11
         by_cases c12 : x7_1.length < 17592186044416
         ·rw [if_pos c12] at H
          have LMc12 := m0 c12
          clear c12
          obtain ⟨y139, hy139⟩ : ∃ y_ : List Int, y_ = (x7_1 ++ [wrap64 ((rd l0 x12_1) + (rd l1_0 (ji9)))]) := ⟨_, rfl⟩
          replace H : (line_noisy.l0 k1 (wrap64 (Int.tdiv x2_1 (l1_0.length : Int))) y139 l0 (l0.length : Int) (wrap64 (x12_1 + 1)) l1_0) = some r := by first | (rw [hy139]; with_reducible exact H) | (have H2_ := (Option.bind_some _ _).symm.trans H; rw [hy139]; with_reducible exact H2_) | (have H2_ := (Option.bind_some _ _).symm.trans H; with_reducible exact H2_) | with_reducible exact H | (rw [hy139]; exact H) | exact H
          have Ny139 := m0 hy139
          clear hy139
          have H' := m0 H
          clear H
          have p137 : 0 ≤ (x12_1 : Int) := of_decide_eq_true (by first | (with_reducible assumption) | assumption)
          have q137 : x12_1 < (l0.length : Int) := of_decide_eq_true (by first | (with_reducible assumption) | assumption)
          obtain ⟨ad137, e137, hx137_0⟩ := Kd.at_int HR0.out x12_1 p137 q137
          cases e137
          replace hx137_0 := (HB.out.cell (World.block_lt_of_cell? w _ hx137_0)).trans hx137_0
          replace p137 := eq_true p137
          replace q137 := eq_true q137
          try go_wp2
          replace HO_7 := m0 (Kd.R_drew HO_7.out); replace BK136 := bd BK136; replace HB := sd HB
          have p138 : 0 ≤ ((ji9) : Int) := of_decide_eq_true (by first | (with_reducible assumption) | assumption)
          have q138 : (ji9) < (l1_0.length : Int) := of_decide_eq_true (by first | (with_reducible assumption) | assumption)
          obtain ⟨ad138, e138, hx138_0⟩ := Kd.at_int HR1_0.out (ji9) p138 q138
          have hw138_0 := hx138_0
          cases e138
          replace hx138_0 := (HB.out.cell (World.block_lt_of_cell? w _ hx138_0)).trans hx138_0
          replace p138 := eq_true p138
          replace q138 := eq_true q138
          refine start_ (n := 15) (S := fun w' => w'.cell? ⟨gb136, 0, none⟩ = some (.slice (some ad138) l1_0.length c1_0) ∧ w'.cell? (ad138.add ((ji9)).toNat) = some (.int .i64 (rd l1_0 (ji9)))) (ds := []) #[false, false, false, false, false, false, false, false, false, false, false, false, false, false, false] (by kernel_rfl) rfl rfl ⟨(blk_cell BK136.out 0).trans rfl, ((HB.out.cell (World.block_lt_of_cell? w _ hw138_0)).trans hw138_0)⟩ (fun hHeld => ?_); refine with_tabW line_noisy.tab5 line_noisy.bits5 (fun HT_ HW_ => ?_)
          generalize wr.drew = w13 at HO_7 BK136 HB hx138_0 hHeld ⊢
          refine pureZ (i := 0) (N := some 16) (bs 15 1) HT_ ?_
          refine pureZ (i := 1) (N := some 17) (bs 15 3) HT_ ?_
          refine pureZ (i := 2) (N := some 18) (bs 15 7) HT_ ?_
          refine pureZ (i := 4) (N := some 20) (bs 15 23) HT_ ?_
          refine pureZ (i := 5) (N := some 21) (bs 15 55) HT_ ?_
          refine takeZ 3 (some 19) (bs 15 63) (take_ofW HT_.out HW_.out (by kernel_rfl)) hHeld ?_
          refine takeZ 6 (some 22) (bs 15 127) (take_ofW HT_.out HW_.out (by kernel_rfl)) hHeld ?_
          refine pureZ (i := 7) (N := some 23) (bs 15 255) HT_ ?_
          refine pureZ (i := 8) (N := some 24) (bs 15 511) HT_ ?_
          refine pureZ (i := 9) (N := some 25) (bs 15 1023) HT_ ?_
          refine takeZ 10 (some 26) (bs 15 2047) (take_ofW HT_.out HW_.out (by kernel_rfl)) hHeld ?_
          refine pureZ (i := 11) (N := some 27) (bs 15 4095) HT_ ?_
          refine oneZ 12 (some 28) (bs 15 8191) (one_of HT_.out (by kernel_rfl)) fun K hK => ?_
          refine value_ (w1 := ?_) (v := ?_) (by rfl) rfl ?_ ?_
          rotate_left 2
          ·go_simp
           constructor
           ·rfl
           ·rfl
          refine hK.out _ _ ⟨(blk_cell (blk_alloc BK136.out _) 0).trans rfl, (World.cell?_alloc_lt _ _ _ (World.block_lt_of_cell? _ _ (((HB.out.cell (World.block_lt_of_cell? w _ hw138_0)).trans hw138_0)))).trans (((HB.out.cell (World.block_lt_of_cell? w _ hw138_0)).trans hw138_0))⟩ (fun hHeld => ?_)
          clear hK K
          refine norm_ (a' := ?_) ?_ ?_
          rotate_left
          ·show Act.put _ (some 28) _ = _
           exact pz
          refine oneZ 13 (some 29) (bs 15 16383) (one_of HT_.out (by kernel_rfl)) fun K hK => ?_
          refine Kd.R_append_step (Kd.int .i64) (w0 := w) w.heap.size (by rfl) (.tmp 16) (.tmp 28) 120 3 (.int .i64 0) 8 rfl Tryd.underlying120 info3 rfl (by decide) (by omega) u7 x7_1 (wrap64 ((rd l0 x12_1) + (rd l1_0 (ji9)))) [.int .i64 (wrap64 ((rd l0 x12_1) + (rd l1_0 (ji9))))] (fun _ => True) (fun _ => False) rfl rfl ?aP (fun _ hk => hk.elim) ?aF ?aO ?aB ?aS ?aL ?_
          (case aP => exact rfl)
          (case aB => exact bz)
          (case aF => exact (fun _ _ => trivial))
          (case aO => exact (br HO_7.out))
          (case aS => exact (below_size bz))
          (case aL => have := LMc12.out; omega)
          intro v140 w14 ho hb hg hat
          rw [← Ny139.out] at ho
          have n0_ := m0 (blk_grown (g := gb136) (o := .cells #[.slice (some ad138) l1_0.length c1_0] 24 (0, 0)) (bk BK136.out) hg (Kd.R_ne HO_7.out BK136.out (by decide))); have n1_ := m0 (hb); have n2_ := m0 (ho); clear BK136; clear HB; clear HO_7; have BK136 := n0_; have HB := n1_; have HO141 := n2_; clear n0_ n1_ n2_
          clear ho hb hg hat
          refine hK.out _ _ ⟨(blk_cell BK136.out 0).trans rfl, ((HB.out.cell (World.block_lt_of_cell? w _ hw138_0)).trans hw138_0)⟩ (fun hHeld => ?_)
          clear hK K
          refine norm_ (a' := ?_) ?_ ?_
          rotate_left
          ·show Act.put _ (some 29) _ = _
           exact pz
          refine pureZ (i := 14) (N := some 7) (bs 15 32767) HT_ ?_
          refine done_ (done_of HT_.out (by kernel_rfl)) ?_
          obtain ⟨_, _⟩ := b1 BK136
          try go_wp2
          go_roundg k1
          case measure => have := HK1.out; omega
          case rel => exact ⟨(wrap64 (Int.tdiv x2_1 (l1_0.length : Int))), (y139), (wrap64 (x12_1 + 1)), (by first | rfl | (simp; done) | (simp [*]; done)), (by first | rfl | (simp; done) | (simp [*]; done)), H', ⟨by have := HK1.out; omega⟩, ⟨br HO141.out⟩, ⟨bk BK136.out⟩, ⟨bz⟩⟩
         ·rw [if_neg c12] at H
          exact absurd H (by simp)
        ·rw [if_neg c11] at H
         exact absurd H (by simp)
       ·rw [if_neg c10] at H
        exact absurd H (by simp)
     ·rw [if_neg c7] at H
      exact absurd H (by simp)
    ·rw [if_neg c6] at H
     exact absurd H (by simp)
   ·rw [if_neg c5] at H
    have c5b0 := decide_eq_false c5
    clear c5
    obtain rfl := Option.some.inj H
    go_wp2
    go_ret
    exact ⟨_, by first | rfl | (simp [errW_none, errW_some] <;> rfl) | (simp [*, errW_none, errW_some] <;> rfl), by (with_reducible repeat (first | apply Kd.R_alloc | apply Kd.R_drewN | apply Kd.R_drew)); exact HO_7.out, by repeat (first | (with_reducible first | exact HB.out | apply below_alloc | apply pw_below_drewN | apply below_drew1 | refine below_set ?_ GE136.out) | exact HB.out)⟩
end
end Go.Proofs.YtjnkphmcndaijaaDoor.A
