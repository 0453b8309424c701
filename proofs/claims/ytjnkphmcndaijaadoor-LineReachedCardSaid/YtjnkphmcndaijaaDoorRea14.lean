/- Walks of the program's functions (printed, made shorter), each with what it computes. -/
import Derived.Shelf.RegionOpen
import Derived.Test.YtjnkphmcndaijaaDoorRea04
import Derived.Test.YtjnkphmcndaijaaDoorRea06
import Derived.Test.YtjnkphmcndaijaaDoorRea08
import Derived.Test.YtjnkphmcndaijaaDoorRea05
import Derived.Test.YtjnkphmcndaijaaDoorRea07
import Derived.Test.YtjnkphmcndaijaaDoorRea03
namespace Go.Proofs.YtjnkphmcndaijaaDoor.A
set_option maxHeartbeats 8000000
set_option maxRecDepth 100000
open Go.RowKit Go.Proofs.YtjnkphmcndaijaaDoorW.PrintWords Go.Proofs.YtjnkphmcndaijaaDoorW.PrintLast Go.Proofs.YtjnkphmcndaijaaDoorW.PrintMore
attribute [local go_sem] max2_int min2_int max_two min_two max_three min_three max_four min_four
set_option linter.unusedVariables false
set_option linter.unusedSimpArgs false
attribute [local go_sem high] eqA26
def line_CheckWorst_rest.step (k : Nat) (ls lv : List Int) (tn td kind w1 w2 : Int) (j : Nat) (s : Int) : Option Int :=
 (line_noisy.f k ls lv j).bind fun row => if s = -1 then (line_miss.f k row kind tn td).bind fun m => (line_less.f w1 w2 m.1 m.2).bind fun b => some (if b = true then (j : Int) else -1) else some s
def line_CheckWorst_rest.f (k : Nat) (l0_0 l0_1 : List Int) (a0_2 a0_3 a1 w1 w2 _w3 : Int) : Option (Int × Int) :=
 (line_cases.f k l0_1 l0_0.length).bind fun c => if 0 ≤ c.1 then if c.1 ≤ 1000000 then (iterN (line_CheckWorst_rest.step k l0_0 l0_1 a0_2 a0_3 a1 w1 w2) c.1.toNat (-1)).bind fun s => some (if s = -1 then (0, 0) else (s, 17)) else none else none
theorem line_CheckWorst_rest.mono : ∀ a0 a1 a2 a3 a4 a5 a6 a7 k, LeO (line_CheckWorst_rest.f k a0 a1 a2 a3 a4 a5 a6 a7) (line_CheckWorst_rest.f (k + 1) a0 a1 a2 a3 a4 a5 a6 a7) := by
 intro a0 a1 a2 a3 a4 a5 a6 a7 k
 unfold line_CheckWorst_rest.f
 refine LeO.bind (line_cases.mono _ _ _) (fun c => ?_)
 refine LeO.ite (LeO.ite (LeO.bind (iterN_mono (fun j s => ?_) _ _) (fun s => LeO.refl _)) (LeO.none _)) (LeO.none _)
 unfold line_CheckWorst_rest.step
 exact LeO.bind (line_noisy.mono _ _ _ _) (fun row => LeO.ite (LeO.bind (line_miss.mono _ _ _ _ _) (fun m => LeO.refl _)) (LeO.refl _))
theorem first3 {k : Nat} {a b t r : Int} {y : List Int} (h : line_unless.f false 3 = some t) (hf : line_first.f k y = some r) (hy : y = [a, b, t]) : r ≠ 0 := by
 subst hy
 obtain rfl : t = 3 := by
  unfold line_unless.f at h
  simpa using h.symm
 unfold line_first.f at hf
 intro e
 subst e
 have r0 : rd [a, b, 3] 0 = a := rfl
 have r1 : rd [a, b, 3] 1 = b := rfl
 have r2 : rd [a, b, 3] 2 = 3 := rfl
 have w0 : wrap64 (0 + 1) = 1 := by unfold wrap64; omega
 have w1 : wrap64 (1 + 1) = 2 := by unfold wrap64; omega
 rcases k with _ | _ | _ | k
 ·simp [line_first.l0] at hf
 ·simp only [line_first.l0, List.length_cons, List.length_nil, r0, w0] at hf
  by_cases ha : a = 0
  ·simp [ha, line_first.l0] at hf
  ·simp [ha] at hf
 ·simp only [line_first.l0, List.length_cons, List.length_nil, r0, w0, r1, w1] at hf
  by_cases ha : a = 0
  ·by_cases hb : b = 0
   ·simp [ha, hb] at hf
   ·simp [ha, hb] at hf
  ·simp [ha] at hf
 ·simp only [line_first.l0, List.length_cons, List.length_nil, r0, w0, r1, w1, r2] at hf
  by_cases ha : a = 0
  ·by_cases hb : b = 0
   ·simp [ha, hb] at hf
   ·simp [ha, hb] at hf
  ·simp [ha] at hf
def isA_ : TypeDesc → Bool
 | .struct _ => true
 | .array _ _ => true
 | _ => false
theorem results_11 {P : Program} {fn : Func} {p p' : Tmp} {ty ty' : TypeId} (h : fn.results = #[.cell p ty, .cell p' ty']) (tmps : Array Value) (w : World) (g g' : Nat) (t t' : TypeId) (cs cs' : Array Value) (fr fr' : Nat × Nat) (d d' : TypeDesc)
  (hp : tmps.getD p undef = .pointer (some ⟨g, 0, none⟩)) (hg : w.heap[g]? = some (.cells cs t fr))
  (hu : P.underlying ty = some d) (hd : isA_ d = false) (hi : (P.info? ty).map (·.size) = some cs.size)
  (hp' : tmps.getD p' undef = .pointer (some ⟨g', 0, none⟩)) (hg' : w.heap[g']? = some (.cells cs' t' fr'))
  (hu' : P.underlying ty' = some d') (hd' : isA_ d' = false) (hi' : (P.info? ty').map (·.size) = some cs'.size)
  (h0 : 0 < cs.size := by exact Nat.succ_pos _) (h0' : 0 < cs'.size := by exact Nat.succ_pos _) :
  (results fn tmps).run P w = .ok (.tuple #[cs.getD 0 undef, cs'.getD 0 undef]) w := by
 have one : ∀ (g : Nat) (cs : Array Value) (t ty : TypeId) (fr : Nat × Nat) (d : TypeDesc), w.heap[g]? = some (.cells cs t fr) → P.underlying ty = some d → isA_ d = false → 0 < cs.size → (loadVar ty ⟨g, 0, none⟩).run P w = .ok (cs.getD 0 undef) w := by
  intro g cs t ty fr d hg hu hd h0
  have hagg : (isAgg ty).run P w = .ok false w := by
   unfold isAgg
   rw [Sem.run_bind, run_underlying hu w]
   cases d <;> simp_all [isA_]
  have hc : w.cell? ⟨g, 0, none⟩ = some (cs.getD 0 undef) := by
   simp [World.cell?, hg, h0]
  unfold loadVar
  rw [Sem.run_bind, hagg]
  simp only [Result.andThen_ok, Bool.false_eq_true, if_false]
  rw [run_load, hc]
 have h1 : tmps[p]?.getD undef = .pointer (some ⟨g, 0, none⟩) := by simpa using hp
 have h2 : tmps[p']?.getD undef = .pointer (some ⟨g', 0, none⟩) := by simpa using hp'
 simp [results, h, h1, h2, asAddr, one g cs t ty fr d hg hu hd h0, one g' cs' t' ty' fr' d' hg' hu' hd' h0']
def line_CheckWorst_rest.T13 : Bool × List (List Nat × List Nat) := (true, [([], []), ([0], [0]), ([], []), ([], []), ([], []), ([4], [4]), ([2, 3, 5], [2, 3, 5]), ([1, 6, 6], [1, 6])])
def line_CheckWorst_rest.B13 : List Nat := [0, 1, 0, 0, 0, 16, 60, 127]
theorem line_CheckWorst_rest.tab13 : rtab .any (opsOf Tryd.f69 13) = line_CheckWorst_rest.T13 := by kernel_rfl
theorem line_CheckWorst_rest.bits13 : waitsOk line_CheckWorst_rest.T13.2 line_CheckWorst_rest.B13 = true := by kernel_rfl
attribute [local go_sem] Oper.semAt_some
def line_CheckWorst.f (k : Nat) (l0_0 : List Int) (l0_1 : List Int) (a0_2 : Int) (a0_3 : Int) (a1 : Int) (a2_0 : Int) (a2_1 : Int) (a2_2 : Int) : Option (Int × Int) := if a2_1 > 0 then (if a2_0 ≥ 0 then ((line_divisor.f k a2_0 a2_1).bind fun t1473 => ((line_CheckCase.f k l0_0 l0_1 a0_2 a0_3).bind fun t1474 => ((line_kindErr.f a1).bind fun t1475 => ((line_unless.f (t1473 == 1) 3).bind fun t1476 => ((line_first.f k (([t1474, t1475, t1476] : List Int))).bind fun t1480 => (if t1480 = 0 then ((line_cases.f k l0_1 (l0_0.length : Int)).bind fun bt1481 => ((line_within.f a2_2 0 (wrap64 (bt1481.1 - 1))).bind fun t1483 => (if t1483 = true then ((line_noisy.f k l0_0 l0_1 a2_2).bind fun t1484 => ((line_miss.f k t1484 a1 a0_2 a0_3).bind fun bt1487 => (if (!(bt1487.1 == a2_0) || (!(bt1487.2 == a2_1))) = true then (some (0, 13)) else (line_CheckWorst_rest.f k l0_0 l0_1 a0_2 a0_3 a1 a2_0 a2_1 a2_2)))) else (some (0, 6))))) else (some (0, t1480)))))))) else ((line_CheckCase.f k l0_0 l0_1 a0_2 a0_3).bind fun t1489 => ((line_kindErr.f a1).bind fun t1490 => ((line_unless.f false 3).bind fun t1491 => ((line_first.f k (([t1489, t1490, t1491] : List Int))).bind fun t1495 => (if t1495 = 0 then ((line_cases.f k l0_1 (l0_0.length : Int)).bind fun bt1496 => ((line_within.f a2_2 0 (wrap64 (bt1496.1 - 1))).bind fun t1498 => (if t1498 = true then ((line_noisy.f k l0_0 l0_1 a2_2).bind fun t1499 => ((line_miss.f k t1499 a1 a0_2 a0_3).bind fun bt1502 => (if (!(bt1502.1 == a2_0) || (!(bt1502.2 == a2_1))) = true then (some (0, 13)) else (line_CheckWorst_rest.f k l0_0 l0_1 a0_2 a0_3 a1 a2_0 a2_1 a2_2)))) else (some (0, 6))))) else (some (0, t1495)))))))) else ((line_CheckCase.f k l0_0 l0_1 a0_2 a0_3).bind fun t1504 => ((line_kindErr.f a1).bind fun t1505 => ((line_unless.f false 3).bind fun t1506 => ((line_first.f k (([t1504, t1505, t1506] : List Int))).bind fun t1510 => (if t1510 = 0 then ((line_cases.f k l0_1 (l0_0.length : Int)).bind fun bt1511 => ((line_within.f a2_2 0 (wrap64 (bt1511.1 - 1))).bind fun t1513 => (if t1513 = true then ((line_noisy.f k l0_0 l0_1 a2_2).bind fun t1514 => ((line_miss.f k t1514 a1 a0_2 a0_3).bind fun bt1517 => (if (!(bt1517.1 == a2_0) || (!(bt1517.2 == a2_1))) = true then (some (0, 13)) else (line_CheckWorst_rest.f k l0_0 l0_1 a0_2 a0_3 a1 a2_0 a2_1 a2_2)))) else (some (0, 6))))) else (some (0, t1510)))))))
theorem line_CheckWorst.mono : ∀ a0 a1 a2 a3 a4 a5 a6 a7 k, LeO (line_CheckWorst.f k a0 a1 a2 a3 a4 a5 a6 a7) (line_CheckWorst.f (k + 1) a0 a1 a2 a3 a4 a5 a6 a7) := by
 intro a0 a1 a2 a3 a4 a5 a6 a7 k
 unfold line_CheckWorst.f
 repeat' first
   | (with_reducible exact line_CheckCase.mono _ _ _ _ _)
   | (with_reducible exact line_CheckWorst_rest.mono _ _ _ _ _ _ _ _ _)
   | (with_reducible exact line_cases.mono _ _ _)
   | (with_reducible exact line_divisor.mono _ _ _)
   | (with_reducible exact line_first.mono _ _)
   | (with_reducible exact line_miss.mono _ _ _ _ _)
   | (with_reducible exact line_noisy.mono _ _ _ _)
   | (with_reducible exact LeO.refl _)
   | (with_reducible exact LeO.none _)
   | (with_reducible refine LeO.ite ?_ ?_)
   | (with_reducible refine LeO.bind ?_ (fun _ => ?_))
   | exact line_CheckCase.mono _ _ _ _ _
   | exact line_CheckWorst_rest.mono _ _ _ _ _ _ _ _ _
   | exact line_cases.mono _ _ _
   | exact line_divisor.mono _ _ _
   | exact line_first.mono _ _
   | exact line_miss.mono _ _ _ _ _
   | exact line_noisy.mono _ _ _ _
   | exact LeO.none _
   | refine LeO.ite ?_ ?_
   | refine LeO.bind ?_ (fun _ => ?_)
def line_CheckWorst.T2 : Bool × List (List Nat × List Nat) := (true, [([], []), ([0], [0]), ([], []), ([2, 1], [2]), ([], []), ([4, 3], [4]), ([1, 3, 5], [1, 3, 5]), ([6, 5], [6]), ([7, 7, 0, 1, 2, 3, 4, 5, 6, 7], [7])])
def line_CheckWorst.B2 : List Nat := [0, 1, 0, 7, 0, 31, 63, 127, 255]
theorem line_CheckWorst.tab2 : rtab .any (opsOf Tryd.f69 2) = line_CheckWorst.T2 := by kernel_rfl
theorem line_CheckWorst.bits2 : waitsOk line_CheckWorst.T2.2 line_CheckWorst.B2 = true := by kernel_rfl
def line_CheckWorst.T8 : Bool × List (List Nat × List Nat) := (true, [([], []), ([0], [0]), ([], []), ([2], [2]), ([], []), ([4], [4]), ([1, 3, 5], [1, 3, 5]), ([], []), ([], []), ([8], [8]), ([6, 7, 9, 6], [6, 7, 9]), ([], []), ([11], [11]), ([10, 12], [10, 12])])
def line_CheckWorst.B8 : List Nat := [0, 1, 0, 4, 0, 16, 63, 0, 0, 256, 1023, 0, 2048, 8191]
theorem line_CheckWorst.tab8 : rtab .any (opsOf Tryd.f69 8) = line_CheckWorst.T8 := by kernel_rfl
theorem line_CheckWorst.bits8 : waitsOk line_CheckWorst.T8.2 line_CheckWorst.B8 = true := by kernel_rfl
theorem line_CheckWorst.calls (k : Nat) (A0_0 : Option Addr) (c0_0 : Nat) (l0_0 : List Int) (A0_1 : Option Addr) (c0_1 : Nat) (l0_1 : List Int) (a0_2 : Int) (a0_3 : Int) (a1 : Int) (a2_0 : Int) (a2_1 : Int) (a2_2 : Int) (r1 : Int) (r2 : Int) (w : World) (hr0_0 : Kd.C (Kd.int .i64) w A0_0 l0_0.length l0_0) (hc0_0 : l0_0.length ≤ c0_0) (hr0_1 : Kd.C (Kd.int .i64) w A0_1 l0_1.length l0_1) (hc0_1 : l0_1.length ≤ c0_1) (hG : EstG w) (h : line_CheckWorst.f k l0_0 l0_1 a0_2 a0_3 a1 a2_0 a2_1 a2_2 = some (r1, r2)) :
  Calls Tryd.prog 69 #[.agg #[.slice A0_0 l0_0.length c0_0, .slice A0_1 l0_1.length c0_1, .int .i64 a0_2, .int .i64 a0_3], .int .i64 a1, .agg #[.int .i64 a2_0, .int .i64 a2_1, .int .i64 a2_2]] w fun e w' => e = .returned (.tuple #[.int .i64 r1, .int .i64 r2]) ∧ Below w.heap.size w w' := by
 have hu28 := Tryd.underlying28
 have hu36 := Tryd.underlying36
 have hu24 := Tryd.underlying24
 have hu26 := Tryd.underlying26
 have HG := m0 hG
 clear hG
 have HR0_0 := m0 hr0_0
 have HC0_0 := m0 hc0_0
 clear hr0_0 hc0_0
 have HR0_1 := m0 hr0_1
 have HC0_1 := m0 hc0_1
 clear hr0_1 hc0_1
 have HB := m0 (Below.refl w.heap.size w)
 have H : (if a2_1 > 0 then (if a2_0 ≥ 0 then ((line_divisor.f k a2_0 a2_1).bind fun t1473 => ((line_CheckCase.f k l0_0 l0_1 a0_2 a0_3).bind fun t1474 => ((line_kindErr.f a1).bind fun t1475 => ((line_unless.f (t1473 == 1) 3).bind fun t1476 => ((line_first.f k (([t1474, t1475, t1476] : List Int))).bind fun t1480 => (if t1480 = 0 then ((line_cases.f k l0_1 (l0_0.length : Int)).bind fun bt1481 => ((line_within.f a2_2 0 (wrap64 (bt1481.1 - 1))).bind fun t1483 => (if t1483 = true then ((line_noisy.f k l0_0 l0_1 a2_2).bind fun t1484 => ((line_miss.f k t1484 a1 a0_2 a0_3).bind fun bt1487 => (if (!(bt1487.1 == a2_0) || (!(bt1487.2 == a2_1))) = true then (some (0, 13)) else (line_CheckWorst_rest.f k l0_0 l0_1 a0_2 a0_3 a1 a2_0 a2_1 a2_2)))) else (some (0, 6))))) else (some (0, t1480)))))))) else ((line_CheckCase.f k l0_0 l0_1 a0_2 a0_3).bind fun t1489 => ((line_kindErr.f a1).bind fun t1490 => ((line_unless.f false 3).bind fun t1491 => ((line_first.f k (([t1489, t1490, t1491] : List Int))).bind fun t1495 => (if t1495 = 0 then ((line_cases.f k l0_1 (l0_0.length : Int)).bind fun bt1496 => ((line_within.f a2_2 0 (wrap64 (bt1496.1 - 1))).bind fun t1498 => (if t1498 = true then ((line_noisy.f k l0_0 l0_1 a2_2).bind fun t1499 => ((line_miss.f k t1499 a1 a0_2 a0_3).bind fun bt1502 => (if (!(bt1502.1 == a2_0) || (!(bt1502.2 == a2_1))) = true then (some (0, 13)) else (line_CheckWorst_rest.f k l0_0 l0_1 a0_2 a0_3 a1 a2_0 a2_1 a2_2)))) else (some (0, 6))))) else (some (0, t1495)))))))) else ((line_CheckCase.f k l0_0 l0_1 a0_2 a0_3).bind fun t1504 => ((line_kindErr.f a1).bind fun t1505 => ((line_unless.f false 3).bind fun t1506 => ((line_first.f k (([t1504, t1505, t1506] : List Int))).bind fun t1510 => (if t1510 = 0 then ((line_cases.f k l0_1 (l0_0.length : Int)).bind fun bt1511 => ((line_within.f a2_2 0 (wrap64 (bt1511.1 - 1))).bind fun t1513 => (if t1513 = true then ((line_noisy.f k l0_0 l0_1 a2_2).bind fun t1514 => ((line_miss.f k t1514 a1 a0_2 a0_3).bind fun bt1517 => (if (!(bt1517.1 == a2_0) || (!(bt1517.2 == a2_1))) = true then (some (0, 13)) else (line_CheckWorst_rest.f k l0_0 l0_1 a0_2 a0_3 a1 a2_0 a2_1 a2_2)))) else (some (0, 6))))) else (some (0, t1510)))))))) = some (r1, r2) := h
 clear h
 by_cases c4 : a2_1 > 0
 ·rw [if_pos c4] at H
  have c4b0 := decide_eq_true c4
  clear c4
  by_cases c5 : a2_0 ≥ 0
  ·rw [if_pos c5] at H
   have c5b0 := decide_eq_true c5
   clear c5
   replace H := ob H
   obtain ⟨t1473, A60, H⟩ := H
   (try dsimp only at H)
   have A6 := m0 A60
   clear A60
   replace H := ob H
   obtain ⟨t1474, A70, H⟩ := H
   (try dsimp only at H)
   have A7 := m0 A70
   clear A70
   replace H := ob H
   obtain ⟨t1475, A80, H⟩ := H
   (try dsimp only at H)
   have A8 := m0 A80
   clear A80
   replace H := ob H
   obtain ⟨t1476, A90, H⟩ := H
   (try dsimp only at H)
   have A9 := m0 A90
   clear A90
   obtain ⟨y1477, hy1477⟩ : ∃ y_ : List Int, y_ = (([t1474, t1475, t1476] : List Int)) := ⟨_, rfl⟩
   replace H : ((line_first.f k y1477).bind fun t1480 => (if t1480 = 0 then ((line_cases.f k l0_1 (l0_0.length : Int)).bind fun bt1481 => ((line_within.f a2_2 0 (wrap64 (bt1481.1 - 1))).bind fun t1483 => (if t1483 = true then ((line_noisy.f k l0_0 l0_1 a2_2).bind fun t1484 => ((line_miss.f k t1484 a1 a0_2 a0_3).bind fun bt1487 => (if (!(bt1487.1 == a2_0) || (!(bt1487.2 == a2_1))) = true then (some (0, 13)) else (line_CheckWorst_rest.f k l0_0 l0_1 a0_2 a0_3 a1 a2_0 a2_1 a2_2)))) else (some (0, 6))))) else (some (0, t1480)))) = some (r1, r2) := by first | (rw [hy1477]; with_reducible exact H) | (have H2_ := (Option.bind_some _ _).symm.trans H; rw [hy1477]; with_reducible exact H2_) | (have H2_ := (Option.bind_some _ _).symm.trans H; with_reducible exact H2_) | with_reducible exact H | (rw [hy1477]; exact H) | exact H
   have Ny1477 := m0 hy1477
   clear hy1477
   replace H := ob H
   obtain ⟨t1480, A100, H⟩ := H
   (try dsimp only at H)
   have A10 := m0 A100
   clear A100
   by_cases c11 : t1480 = 0
   ·rw [if_pos c11] at H
    have c11b0 := beq_iff_eq.mpr c11
    have c11b1 := bne_eq_false_iff_eq.mpr c11
    clear c11
    replace H := ob H
    obtain ⟨⟨t1481, t1482⟩, A120, H⟩ := H
    (try dsimp only at H)
    have A12 := m0 A120
    clear A120
    replace H := ob H
    obtain ⟨t1483, A130, H⟩ := H
    (try dsimp only at H)
    have A13 := m0 A130
    clear A130
    by_cases c14 : t1483 = true
    ·subst c14
     rw [if_pos rfl] at H
     replace H := ob H
     obtain ⟨t1484, A150, H⟩ := H
     (try dsimp only at H)
     have A15 := m0 A150
     clear A150
     replace H := ob H
     obtain ⟨⟨t1487, t1488⟩, A160, H⟩ := H
     (try dsimp only at H)
     have A16 := m0 A160
     clear A160
     by_cases c17 : (!(t1487 == a2_0) || (!(t1488 == a2_1))) = true
     ·rw [if_pos c17] at H
      have c17b0 : (!(t1487 == a2_0) || (!(t1488 == a2_1))) = true := c17
      clear c17
      simp only [Option.some.injEq, Prod.mk.injEq] at H
      obtain ⟨rfl, rfl⟩ := H
      refine (callsIn_wide (n := 9)).1 (callsIn_of_wp_marks Tryd.func69 rfl trivial (wpIn_mono (Q := QM 9 Tryd.prog Tryd.f69 _) (wpIn_wide.2 ?_) (fun _ _ _ h => QM.le h)) rfl)
      simp only [Tryd.ntmps69, List.size_toArray, List.length_cons, List.length_nil, Nat.reduceAdd, Nat.reduceSub, Array.replicate_succ, Array.replicate_zero, List.push_toArray, List.append_toArray, List.nil_append, List.cons_append]
      try go_wp2_with (first | ((with_reducible refine gate_dst (N := 3) rfl ?_); refine be 3 28 #[.slice A0_0 l0_0.length c0_0, .slice A0_1 l0_1.length c0_1, .int .i64 a0_2, .int .i64 a0_3] ?_; intro gb1468 hg w18 hbox hb; have BK1468 := m0 hbox; have GW1468 := m0 (bg (n := w.heap.size) hg); have GE1468 := m0 (bg (n := w.heap.size) hg); replace HB := sb HB hb; clear hb hbox hg) | ((with_reducible refine gate_dst (N := 4) rfl ?_); refine be 4 3 #[.int .i64 a1] ?_; intro gb1469 hg w19 hbox hb; have BK1469 := m0 hbox; have GW1469 := m0 (bg (n := w.heap.size) hg); have GE1469 := m0 (bg (n := w.heap.size) hg); replace HB := sb HB hb; have NB1468_1469 := nl BK1468 hg; have NB1469_1468 := ng (nl BK1468 hg); replace BK1468 := bb BK1468 hb; clear hb hbox hg) | ((with_reducible refine gate_dst (N := 5) rfl ?_); refine be 5 36 #[.int .i64 a2_0, .int .i64 a2_1, .int .i64 a2_2] ?_; intro gb1470 hg w20 hbox hb; have BK1470 := m0 hbox; have GW1470 := m0 (bg (n := w.heap.size) hg); have GE1470 := m0 (bg (n := w.heap.size) hg); replace HB := sb HB hb; have NB1468_1470 := nl BK1468 hg; have NB1470_1468 := ng (nl BK1468 hg); replace BK1468 := bb BK1468 hb; have NB1469_1470 := nl BK1469 hg; have NB1470_1469 := ng (nl BK1469 hg); replace BK1469 := bb BK1469 hb; clear hb hbox hg) | ((with_reducible refine gate_dst (N := 6) rfl ?_); refine be 6 3 #[.int .i64 0] ?_; intro gb1471 hg w21 hbox hb; have BK1471 := m0 hbox; have GW1471 := m0 (bg (n := w.heap.size) hg); have GE1471 := m0 (bg (n := w.heap.size) hg); replace HB := sb HB hb; have NB1468_1471 := nl BK1468 hg; have NB1471_1468 := ng (nl BK1468 hg); replace BK1468 := bb BK1468 hb; have NB1469_1471 := nl BK1469 hg; have NB1471_1469 := ng (nl BK1469 hg); replace BK1469 := bb BK1469 hb; have NB1470_1471 := nl BK1470 hg; have NB1471_1470 := ng (nl BK1470 hg); replace BK1470 := bb BK1470 hb; clear hb hbox hg) | ((with_reducible refine gate_dst (N := 7) rfl ?_); refine be 7 31 #[.int .i64 0] ?_; intro gb1472 hg w22 hbox hb; have BK1472 := m0 hbox; have GW1472 := m0 (bg (n := w.heap.size) hg); have GE1472 := m0 (bg (n := w.heap.size) hg); replace HB := sb HB hb; have NB1468_1472 := nl BK1468 hg; have NB1472_1468 := ng (nl BK1468 hg); replace BK1468 := bb BK1468 hb; have NB1469_1472 := nl BK1469 hg; have NB1472_1469 := ng (nl BK1469 hg); replace BK1469 := bb BK1469 hb; have NB1470_1472 := nl BK1470 hg; have NB1472_1470 := ng (nl BK1470 hg); replace BK1470 := bb BK1470 hb; have NB1471_1472 := nl BK1471 hg; have NB1472_1471 := ng (nl BK1471 hg); replace BK1471 := bb BK1471 hb; clear hb hbox hg; have hnb23 := NB1470_1468.out; have hnc23 := NB1468_1470.out; have hnb24 := NB1470_1469.out; have hnc24 := NB1469_1470.out; have hnb25 := NB1470_1471.out; have hnc25 := NB1471_1470.out; have hnb26 := NB1470_1472.out; have hnc26 := NB1472_1470.out; obtain ⟨_, _, _, _, _, _⟩ := b3 BK1470) | (go_at_call 127; (with_reducible refine (line_divisor.calls k a2_0 a2_1 t1473 _ A6.out).mono ?_); rintro e w28 ⟨rfl, hb⟩; replace BK1468 := bb BK1468 hb; replace BK1469 := bb BK1469 hb; replace BK1470 := bb BK1470 hb; replace BK1471 := bb BK1471 hb; replace BK1472 := bb BK1472 hb; replace HB := sb HB hb; (try clear hb)))
      replace BK1468 := bd BK1468; replace BK1469 := bd BK1469; replace BK1470 := bd BK1470; replace BK1471 := bd BK1471; replace BK1472 := bd BK1472; replace HB := sd HB
      refine start_ (n := 9) (S := fun w' => w'.cell? ⟨gb1468, 0, none⟩ = some (.slice A0_0 l0_0.length c0_0) ∧ w'.cell? ⟨gb1468, 1, none⟩ = some (.slice A0_1 l0_1.length c0_1) ∧ w'.cell? ⟨gb1468, 2, none⟩ = some (.int .i64 a0_2) ∧ w'.cell? ⟨gb1468, 3, none⟩ = some (.int .i64 a0_3) ∧ w'.cell? ⟨gb1469, 0, none⟩ = some (.int .i64 a1)) (ds := []) #[false, false, false, false, false, false, false, false, false] (by kernel_rfl) rfl rfl cz (fun hHeld => ?_); refine with_tabW line_CheckWorst.tab2 line_CheckWorst.bits2 (fun HT_ HW_ => ?_)
      generalize w28.drew = w29 at BK1468 BK1469 BK1470 BK1471 BK1472 HB hHeld ⊢
      refine pureZ (i := 4) (N := some 38) #[false, false, false, false, true, false, false, false, false] HT_ ?_
      refine takeZ 0 (some 34) #[true, false, false, false, true, false, false, false, false] (take_ofW HT_.out HW_.out (by kernel_rfl)) hHeld ?_
      refine takeZ 2 (some 36) #[true, false, true, false, true, false, false, false, false] (take_ofW HT_.out HW_.out (by kernel_rfl)) hHeld ?_
      refine oneZ 1 (some 35) #[true, true, true, false, true, false, false, false, false] (one_of HT_.out (by kernel_rfl)) fun K hK => ?_
      refine goes_ Tryd.func53 (by kernel_rfl) rfl #[.agg #[.slice A0_0 l0_0.length c0_0, .slice A0_1 l0_1.length c0_1, .int .i64 a0_2, .int .i64 a0_3]] (by rfl) rfl rfl mz ?_
      with_reducible refine (line_CheckCase.calls k _ _ l0_0 _ _ l0_1 a0_2 a0_3 t1474 _ ?side1 ?side2 ?side3 ?side4 A7.out).mono ?_
      (case side1 => exact cb HR0_0 HB)
      (case side2 => exact HC0_0.out)
      (case side3 => exact cb HR0_1 HB)
      (case side4 => exact HC0_1.out)
      rintro e w30 ⟨rfl, hb⟩
      refine ⟨_, rfl, ?_⟩
      replace BK1468 := bb BK1468 hb; replace BK1469 := bb BK1469 hb; replace BK1470 := bb BK1470 hb; replace BK1471 := bb BK1471 hb; replace BK1472 := bb BK1472 hb; replace HB := sb HB hb
      (try clear hb)
      refine hK.out _ _ cz (fun hHeld => ?_)
      clear hK K
      refine norm_ (a' := ?_) ?_ ?_
      rotate_left
      ·show Act.put _ (some 35) _ = _
       exact pz
      refine oneZ 3 (some 37) #[true, true, true, true, true, false, false, false, false] (one_of HT_.out (by kernel_rfl)) fun K hK => ?_
      refine goes_ Tryd.func92 (by kernel_rfl) rfl #[.int .i64 a1] (by rfl) rfl rfl mz ?_
      with_reducible refine (line_kindErr.calls a1 t1475 _ A8.out).mono ?_
      rintro e w' ⟨rfl, ⟨nd, rfl⟩⟩
      refine ⟨_, rfl, ?_⟩
      refine hK.out _ _ cz (fun hHeld => ?_)
      clear hK K
      refine norm_ (a' := ?_) ?_ ?_
      rotate_left
      ·show Act.put _ (some 37) _ = _
       exact pz
      refine oneZ 5 (some 39) #[true, true, true, true, true, true, false, false, false] (one_of HT_.out (by kernel_rfl)) fun K hK => ?_
      refine goes_ Tryd.func93 (by kernel_rfl) rfl #[.bool (t1473 == 1), .int .i64 3] (by rfl) rfl rfl mz ?_
      with_reducible refine (line_unless.calls (t1473 == 1) 3 t1476 _ A9.out).mono ?_
      rintro e w' ⟨rfl, ⟨nd, rfl⟩⟩
      refine ⟨_, rfl, ?_⟩
      refine hK.out _ _ cz (fun hHeld => ?_)
      clear hK K
      refine norm_ (a' := ?_) ?_ ?_
      rotate_left
      ·show Act.put _ (some 39) _ = _
       exact pz
      refine oneZ 6 (some 40) #[true, true, true, true, true, true, true, false, false] (one_of HT_.out (by kernel_rfl)) fun K hK => ?_
      refine Kd.R_lit_step (Kd.int .i64) _ 31 ?hg (N := 40) ?hd (xs := ([t1474, t1475, t1476] : List Int)) (inner := [.int .i64 t1474, .int .i64 t1475, .int .i64 t1476]) (ok := fun _ => True) (okp := fun _ => True) ?hr ?hp (fun _ hk => hk) trivial (Below.refl _ _) (Nat.le_refl _) (by simp) ?_; (case hd => rfl); (case hg => rfl); (case hr => first | (go_simp; done) | (go_simp; rfl)); (case hp => exact (Reps.one (show Kd.M (Kd.int .i64) _ _ _ t1474 [.int .i64 t1474] from rfl) (Reps.one (show Kd.M (Kd.int .i64) _ _ _ t1475 [.int .i64 t1475] from rfl) (Reps.one (show Kd.M (Kd.int .i64) _ _ _ t1476 [.int .i64 t1476] from rfl) (Reps.none _ _)))))
      intro v1478 w31 ho32 hb hg_ hnew_
      clear hg_ hnew_
      (first | rw [← Ny1477.out] at ho32 | (simp only [Int.reduceToNat] at ho32; rw [← Ny1477.out] at ho32))
      have HO1479 := m0 (Kd.R_lower (Kd.R_newB ho32 (g := gb1472) (o := .cells #[.int .i64 0] 31 (0, 0)) (bk BK1472.out)) (below_size bz)); replace BK1468 := bb BK1468 hb; replace BK1469 := bb BK1469 hb; replace BK1470 := bb BK1470 hb; replace BK1471 := bb BK1471 hb; replace BK1472 := bb BK1472 hb; replace HB := sb HB hb
      clear hb ho32
      obtain ⟨Ao33, co33, eo33⟩ := Kd.R_slice HO1479.out
      (first | subst eo33 | (injection eo33 with f1_ f2_ f3_; have f4_ := f1_.symm; have f5_ := f3_.symm; clear f1_ f2_ f3_; subst f4_; subst f5_))
      refine hK.out _ _ cz (fun hHeld => ?_)
      clear hK K
      refine norm_ (a' := ?_) ?_ ?_
      rotate_left
      ·show Act.put _ (some 40) _ = _
       exact pz
      refine oneZ 7 (some 41) #[true, true, true, true, true, true, true, true, false] (one_of HT_.out (by kernel_rfl)) fun K hK => ?_
      refine goes_ Tryd.func91 (by kernel_rfl) rfl #[.slice Ao33 y1477.length co33] (by rfl) rfl rfl mz ?_
      with_reducible refine (line_first.calls k _ _ y1477 t1480 _ ?side1 ?side2 A10.out).mono ?_
      (case side1 => exact bc (Kd.R_reads' HO1479.out).2.2)
      (case side2 => exact (Kd.R_reads' HO1479.out).2.1)
      rintro e w' ⟨rfl, ⟨nd, rfl⟩⟩
      refine ⟨_, rfl, ?_⟩
      refine hK.out _ _ cz (fun hHeld => ?_)
      clear hK K
      refine norm_ (a' := ?_) ?_ ?_
      rotate_left
      ·show Act.put _ (some 41) _ = _
       exact pz
      refine pureZ (i := 8) (N := some 9) #[true, true, true, true, true, true, true, true, true] HT_ ?_
      refine done_ (done_of HT_.out (by kernel_rfl)) ?_
      have hnb34 := NB1468_1469.out
      have hnc34 := NB1469_1468.out
      have hnb35 := NB1468_1471.out
      have hnc35 := NB1471_1468.out
      have hnb36 := NB1468_1472.out
      have hnc36 := NB1472_1468.out
      obtain ⟨_, _, _, _, _, _, _, _⟩ := b4 BK1468
      try go_wp2_with (first | ((with_reducible refine gate_callee (f := 121) rfl ?_); refine gl (some 51) Tryd.func121 #[.agg #[.slice A0_1 l0_1.length c0_1], .int .i64 (l0_0.length : Int)] ?_; (with_reducible refine (line_cases.calls k _ _ l0_1 (l0_0.length : Int) t1481 t1482 _ ?side1 ?side2 A12.out).mono ?_); (case side1 => repeat (first | exact (Kd.C_below HR0_1.out bz) | (with_reducible refine Kd.C_alloc ?_ _) | (with_reducible refine Kd.C_drewN ?_ _) | (with_reducible refine Kd.C_drew ?_))); (case side2 => exact HC0_1.out); rintro e w38 ⟨rfl, hb⟩; refine ⟨_, rfl, ?_⟩; replace HO1479 := rb HO1479 hb; replace BK1468 := bb BK1468 hb; replace BK1469 := bb BK1469 hb; replace BK1470 := bb BK1470 hb; replace BK1471 := bb BK1471 hb; replace BK1472 := bb BK1472 hb; replace HB := sb HB hb; (try clear hb); obtain ⟨_, _, _, _, _, _⟩ := b3 BK1470) | ((with_reducible refine gate_callee (f := 105) rfl ?_); refine gl (some 58) Tryd.func105 #[.int .i64 a2_2, .int .i64 0, .int .i64 (wrap64 (t1481 - 1))] ?_; (with_reducible refine (line_within.calls a2_2 0 (wrap64 (t1481 - 1)) true _ A13.out).mono ?_); rintro e w' ⟨rfl, ⟨nd, rfl⟩⟩; refine ⟨_, rfl, ?_⟩; (try (rw [drewN_self w38]; generalize hq_ : World.drewN w38 _ = w38; have n0_ : Aside0 (Kd.R (Kd.int .i64) 31 w38 w.heap.size (fun k_ => k_ ≠ gb1472) (.slice Ao33 y1477.length co33) y1477) := ⟨by rw [← hq_]; exact (by (with_reducible repeat (first | apply Kd.R_alloc | apply Kd.R_drewN | apply Kd.R_drew)); exact Kd.R_mono HO1479.out (fun _ hk => hk.2))⟩; have n1_ := gd BK1468 hq_; have n2_ := gd BK1469 hq_; have n3_ := gd BK1470 hq_; have n4_ := gd BK1471 hq_; have n5_ := gd BK1472 hq_; have n6_ := gs HB hq_; clear HO1479 BK1468 BK1469 BK1470 BK1471 BK1472 HB hq_; have HO1479 := n0_; have BK1468 := n1_; have BK1469 := n2_; have BK1470 := n3_; have BK1471 := n4_; have BK1472 := n5_; have HB := n6_; clear n0_ n1_ n2_ n3_ n4_ n5_ n6_))))
      replace HO1479 := m0 (Kd.R_drew HO1479.out); replace BK1468 := bd BK1468; replace BK1469 := bd BK1469; replace BK1470 := bd BK1470; replace BK1471 := bd BK1471; replace BK1472 := bd BK1472; replace HB := sd HB
      refine start_ (n := 14) (S := fun w' => w'.cell? ⟨gb1468, 0, none⟩ = some (.slice A0_0 l0_0.length c0_0) ∧ w'.cell? ⟨gb1468, 1, none⟩ = some (.slice A0_1 l0_1.length c0_1) ∧ w'.cell? ⟨gb1468, 2, none⟩ = some (.int .i64 a0_2) ∧ w'.cell? ⟨gb1468, 3, none⟩ = some (.int .i64 a0_3) ∧ w'.cell? ⟨gb1470, 0, none⟩ = some (.int .i64 a2_0) ∧ w'.cell? ⟨gb1470, 1, none⟩ = some (.int .i64 a2_1) ∧ w'.cell? ⟨gb1470, 2, none⟩ = some (.int .i64 a2_2) ∧ w'.cell? ⟨gb1469, 0, none⟩ = some (.int .i64 a1)) (ds := []) #[false, false, false, false, false, false, false, false, false, false, false, false, false, false] (by kernel_rfl) rfl rfl cz (fun hHeld => ?_); refine with_tabW line_CheckWorst.tab8 line_CheckWorst.bits8 (fun HT_ HW_ => ?_)
      generalize w38.drew = w40 at HO1479 BK1468 BK1469 BK1470 BK1471 BK1472 HB hHeld ⊢
      refine pureZ (i := 0) (N := some 60) (bs 14 1) HT_ ?_
      refine pureZ (i := 2) (N := some 62) (bs 14 5) HT_ ?_
      refine pureZ (i := 4) (N := some 64) (bs 14 21) HT_ ?_
      refine pureZ (i := 8) (N := some 68) (bs 14 277) HT_ ?_
      refine pureZ (i := 11) (N := some 71) (bs 14 2325) HT_ ?_
      refine takeZ 1 (some 61) (bs 14 2327) (take_ofW HT_.out HW_.out (by kernel_rfl)) hHeld ?_
      refine takeZ 3 (some 63) (bs 14 2335) (take_ofW HT_.out HW_.out (by kernel_rfl)) hHeld ?_
      refine takeZ 5 (some 65) (bs 14 2367) (take_ofW HT_.out HW_.out (by kernel_rfl)) hHeld ?_
      refine takeZ 7 (some 67) (bs 14 2495) (take_ofW HT_.out HW_.out (by kernel_rfl)) hHeld ?_
      refine takeZ 9 (some 69) (bs 14 3007) (take_ofW HT_.out HW_.out (by kernel_rfl)) hHeld ?_
      refine takeZ 12 (some 72) (bs 14 7103) (take_ofW HT_.out HW_.out (by kernel_rfl)) hHeld ?_
      refine oneZ 6 (some 66) (bs 14 7167) (one_of HT_.out (by kernel_rfl)) fun K hK => ?_
      refine goes_ Tryd.func123 (by kernel_rfl) rfl #[.slice A0_0 l0_0.length c0_0, .agg #[.slice A0_1 l0_1.length c0_1], .int .i64 a2_2] (by rfl) rfl rfl mz ?_
      with_reducible refine (line_noisy.calls k _ _ l0_0 _ _ l0_1 a2_2 t1484 _ ?side1 ?side2 ?side3 ?side4 A15.out).mono ?_
      (case side1 => exact cb HR0_0 HB)
      (case side2 => exact HC0_0.out)
      (case side3 => exact cb HR0_1 HB)
      (case side4 => exact HC0_1.out)
      rintro e w41 ⟨v1485, rfl, ho0, hb⟩
      refine ⟨_, rfl, ?_⟩
      replace HO1479 := rb HO1479 hb; have HO1486 := m0 (Kd.R_lower (Kd.R_newB (Kd.R_newB ho0 (g := gb1469) (o := .cells #[.int .i64 a1] 3 (0, 0)) (bk BK1469.out)) (g := gb1471) (o := .cells #[.int .i64 0] 3 (0, 0)) (bk BK1471.out)) (below_size bz)); replace BK1468 := bb BK1468 hb; replace BK1469 := bb BK1469 hb; replace BK1470 := bb BK1470 hb; replace BK1471 := bb BK1471 hb; replace BK1472 := bb BK1472 hb; replace HB := sb HB hb
      (try clear hb)
      (try clear ho0)
      obtain ⟨Ao42, co42, eo42⟩ := Kd.R_slice HO1486.out
      (first | subst eo42 | (injection eo42 with f1_ f2_ f3_; have f4_ := f1_.symm; have f5_ := f3_.symm; clear f1_ f2_ f3_; subst f4_; subst f5_))
      refine hK.out _ _ cz (fun hHeld => ?_)
      clear hK K
      refine norm_ (a' := ?_) ?_ ?_
      rotate_left
      ·show Act.put _ (some 66) _ = _
       exact pz
      refine oneZ 10 (some 70) (bs 14 8191) (one_of HT_.out (by kernel_rfl)) fun K hK => ?_
      refine goes_ Tryd.func128 (by kernel_rfl) rfl #[.slice Ao42 t1484.length co42, .int .i64 a1, .agg #[.int .i64 a0_2, .int .i64 a0_3]] (by rfl) rfl rfl mz ?_
      with_reducible refine (line_miss.calls k _ _ t1484 a1 a0_2 a0_3 t1487 t1488 _ ?side1 ?side2 ?side3 A16.out).mono ?_
      (case side1 => exact bc (Kd.R_reads' HO1486.out).2.2)
      (case side2 => exact (Kd.R_reads' HO1486.out).2.1)
      (case side3 => exact EstG.below HG.out bz)
      rintro e w43 ⟨rfl, hb⟩
      refine ⟨_, rfl, ?_⟩
      replace HO1479 := rb HO1479 hb; replace HO1486 := rb HO1486 hb; replace BK1468 := bb BK1468 hb; replace BK1469 := bb BK1469 hb; replace BK1470 := bb BK1470 hb; replace BK1471 := bb BK1471 hb; replace BK1472 := bb BK1472 hb; replace HB := sb HB hb
      (try clear hb)
      refine hK.out _ _ cz (fun hHeld => ?_)
      clear hK K
      refine norm_ (a' := ?_) ?_ ?_
      rotate_left
      ·show Act.put _ (some 70) _ = _
       exact pz
      refine pureZ (i := 13) (N := some 73) (bs 14 16383) HT_ ?_
      refine done_ (done_of HT_.out (by kernel_rfl)) ?_
      have hnb44 := NB1471_1469.out
      have hnc44 := NB1469_1471.out
      have hnb45 := NB1471_1472.out
      have hnc45 := NB1472_1471.out
      obtain ⟨_, _⟩ := b1 BK1471
      have hnb47 := NB1472_1469.out
      have hnc47 := NB1469_1472.out
      obtain ⟨_, _⟩ := b1 BK1472
      try go_wp2
      refine bodyPostM_ret (results_11 rfl _ _ gb1471 gb1472 3 31 #[.int .i64 0] #[.int .i64 13] (0, 0) (0, 0) _ _ rfl (by (with_reducible repeat (first | refine blk_drewN ?_ _ | refine blk_drew ?_ | refine blk_alloc ?_ _)); refine blk_far ?_ NB1471_1472.out _; (with_reducible repeat (first | refine blk_drewN ?_ _ | refine blk_drew ?_ | refine blk_alloc ?_ _)); refine blk_put (cs := #[.int .i64 0]) ?_ 0 _ rfl; (with_reducible repeat (first | refine blk_drewN ?_ _ | refine blk_drew ?_ | refine blk_alloc ?_ _)); exact BK1471.out) Tryd.underlying3 rfl (by kernel_rfl) rfl (by (with_reducible repeat (first | refine blk_drewN ?_ _ | refine blk_drew ?_ | refine blk_alloc ?_ _)); refine blk_put (cs := #[.int .i64 0]) ?_ 0 _ rfl; (with_reducible repeat (first | refine blk_drewN ?_ _ | refine blk_drew ?_ | refine blk_alloc ?_ _)); refine blk_far ?_ NB1472_1471.out _; (with_reducible repeat (first | refine blk_drewN ?_ _ | refine blk_drew ?_ | refine blk_alloc ?_ _)); exact BK1472.out) Tryd.underlying31 rfl (by kernel_rfl)) rfl ?_
      exact ez
     ·rw [if_neg c17] at H
      have c17b0 : (!(t1487 == a2_0) || (!(t1488 == a2_1))) = false := by simpa using c17
      clear c17
      refine (callsIn_wide (n := 9)).1 (callsIn_of_wp_marks Tryd.func69 rfl trivial (wpIn_mono (Q := QM 9 Tryd.prog Tryd.f69 _) (wpIn_wide.2 ?_) (fun _ _ _ h => QM.le h)) rfl)
      simp only [Tryd.ntmps69, List.size_toArray, List.length_cons, List.length_nil, Nat.reduceAdd, Nat.reduceSub, Array.replicate_succ, Array.replicate_zero, List.push_toArray, List.append_toArray, List.nil_append, List.cons_append]
      try go_wp2_with (first | ((with_reducible refine gate_dst (N := 3) rfl ?_); refine be 3 28 #[.slice A0_0 l0_0.length c0_0, .slice A0_1 l0_1.length c0_1, .int .i64 a0_2, .int .i64 a0_3] ?_; intro gb1468 hg w49 hbox hb; have BK1468 := m0 hbox; have GW1468 := m0 (bg (n := w.heap.size) hg); have GE1468 := m0 (bg (n := w.heap.size) hg); replace HB := sb HB hb; clear hb hbox hg) | ((with_reducible refine gate_dst (N := 4) rfl ?_); refine be 4 3 #[.int .i64 a1] ?_; intro gb1469 hg w50 hbox hb; have BK1469 := m0 hbox; have GW1469 := m0 (bg (n := w.heap.size) hg); have GE1469 := m0 (bg (n := w.heap.size) hg); replace HB := sb HB hb; have NB1468_1469 := nl BK1468 hg; have NB1469_1468 := ng (nl BK1468 hg); replace BK1468 := bb BK1468 hb; clear hb hbox hg) | ((with_reducible refine gate_dst (N := 5) rfl ?_); refine be 5 36 #[.int .i64 a2_0, .int .i64 a2_1, .int .i64 a2_2] ?_; intro gb1470 hg w51 hbox hb; have BK1470 := m0 hbox; have GW1470 := m0 (bg (n := w.heap.size) hg); have GE1470 := m0 (bg (n := w.heap.size) hg); replace HB := sb HB hb; have NB1468_1470 := nl BK1468 hg; have NB1470_1468 := ng (nl BK1468 hg); replace BK1468 := bb BK1468 hb; have NB1469_1470 := nl BK1469 hg; have NB1470_1469 := ng (nl BK1469 hg); replace BK1469 := bb BK1469 hb; clear hb hbox hg) | ((with_reducible refine gate_dst (N := 6) rfl ?_); refine be 6 3 #[.int .i64 0] ?_; intro gb1471 hg w52 hbox hb; have BK1471 := m0 hbox; have GW1471 := m0 (bg (n := w.heap.size) hg); have GE1471 := m0 (bg (n := w.heap.size) hg); replace HB := sb HB hb; have NB1468_1471 := nl BK1468 hg; have NB1471_1468 := ng (nl BK1468 hg); replace BK1468 := bb BK1468 hb; have NB1469_1471 := nl BK1469 hg; have NB1471_1469 := ng (nl BK1469 hg); replace BK1469 := bb BK1469 hb; have NB1470_1471 := nl BK1470 hg; have NB1471_1470 := ng (nl BK1470 hg); replace BK1470 := bb BK1470 hb; clear hb hbox hg) | ((with_reducible refine gate_dst (N := 7) rfl ?_); refine be 7 31 #[.int .i64 0] ?_; intro gb1472 hg w53 hbox hb; have BK1472 := m0 hbox; have GW1472 := m0 (bg (n := w.heap.size) hg); have GE1472 := m0 (bg (n := w.heap.size) hg); replace HB := sb HB hb; have NB1468_1472 := nl BK1468 hg; have NB1472_1468 := ng (nl BK1468 hg); replace BK1468 := bb BK1468 hb; have NB1469_1472 := nl BK1469 hg; have NB1472_1469 := ng (nl BK1469 hg); replace BK1469 := bb BK1469 hb; have NB1470_1472 := nl BK1470 hg; have NB1472_1470 := ng (nl BK1470 hg); replace BK1470 := bb BK1470 hb; have NB1471_1472 := nl BK1471 hg; have NB1472_1471 := ng (nl BK1471 hg); replace BK1471 := bb BK1471 hb; clear hb hbox hg; have hnb54 := NB1470_1468.out; have hnc54 := NB1468_1470.out; have hnb55 := NB1470_1469.out; have hnc55 := NB1469_1470.out; have hnb56 := NB1470_1471.out; have hnc56 := NB1471_1470.out; have hnb57 := NB1470_1472.out; have hnc57 := NB1472_1470.out; obtain ⟨_, _, _, _, _, _⟩ := b3 BK1470) | (go_at_call 127; (with_reducible refine (line_divisor.calls k a2_0 a2_1 t1473 _ A6.out).mono ?_); rintro e w59 ⟨rfl, hb⟩; replace BK1468 := bb BK1468 hb; replace BK1469 := bb BK1469 hb; replace BK1470 := bb BK1470 hb; replace BK1471 := bb BK1471 hb; replace BK1472 := bb BK1472 hb; replace HB := sb HB hb; (try clear hb)))
      replace BK1468 := bd BK1468; replace BK1469 := bd BK1469; replace BK1470 := bd BK1470; replace BK1471 := bd BK1471; replace BK1472 := bd BK1472; replace HB := sd HB
      refine start_ (n := 9) (S := fun w' => w'.cell? ⟨gb1468, 0, none⟩ = some (.slice A0_0 l0_0.length c0_0) ∧ w'.cell? ⟨gb1468, 1, none⟩ = some (.slice A0_1 l0_1.length c0_1) ∧ w'.cell? ⟨gb1468, 2, none⟩ = some (.int .i64 a0_2) ∧ w'.cell? ⟨gb1468, 3, none⟩ = some (.int .i64 a0_3) ∧ w'.cell? ⟨gb1469, 0, none⟩ = some (.int .i64 a1)) (ds := []) #[false, false, false, false, false, false, false, false, false] (by kernel_rfl) rfl rfl cz (fun hHeld => ?_); refine with_tabW line_CheckWorst.tab2 line_CheckWorst.bits2 (fun HT_ HW_ => ?_)
      generalize w59.drew = w60 at BK1468 BK1469 BK1470 BK1471 BK1472 HB hHeld ⊢
      refine pureZ (i := 4) (N := some 38) #[false, false, false, false, true, false, false, false, false] HT_ ?_
      refine takeZ 0 (some 34) #[true, false, false, false, true, false, false, false, false] (take_ofW HT_.out HW_.out (by kernel_rfl)) hHeld ?_
      refine takeZ 2 (some 36) #[true, false, true, false, true, false, false, false, false] (take_ofW HT_.out HW_.out (by kernel_rfl)) hHeld ?_
      refine oneZ 1 (some 35) #[true, true, true, false, true, false, false, false, false] (one_of HT_.out (by kernel_rfl)) fun K hK => ?_
      refine goes_ Tryd.func53 (by kernel_rfl) rfl #[.agg #[.slice A0_0 l0_0.length c0_0, .slice A0_1 l0_1.length c0_1, .int .i64 a0_2, .int .i64 a0_3]] (by rfl) rfl rfl mz ?_
      with_reducible refine (line_CheckCase.calls k _ _ l0_0 _ _ l0_1 a0_2 a0_3 t1474 _ ?side1 ?side2 ?side3 ?side4 A7.out).mono ?_
      (case side1 => exact cb HR0_0 HB)
      (case side2 => exact HC0_0.out)
      (case side3 => exact cb HR0_1 HB)
      (case side4 => exact HC0_1.out)
      rintro e w61 ⟨rfl, hb⟩
      refine ⟨_, rfl, ?_⟩
      replace BK1468 := bb BK1468 hb; replace BK1469 := bb BK1469 hb; replace BK1470 := bb BK1470 hb; replace BK1471 := bb BK1471 hb; replace BK1472 := bb BK1472 hb; replace HB := sb HB hb
      (try clear hb)
      refine hK.out _ _ cz (fun hHeld => ?_)
      clear hK K
      refine norm_ (a' := ?_) ?_ ?_
      rotate_left
      ·show Act.put _ (some 35) _ = _
       exact pz
      refine oneZ 3 (some 37) #[true, true, true, true, true, false, false, false, false] (one_of HT_.out (by kernel_rfl)) fun K hK => ?_
      refine goes_ Tryd.func92 (by kernel_rfl) rfl #[.int .i64 a1] (by rfl) rfl rfl mz ?_
      with_reducible refine (line_kindErr.calls a1 t1475 _ A8.out).mono ?_
      rintro e w' ⟨rfl, ⟨nd, rfl⟩⟩
      refine ⟨_, rfl, ?_⟩
      refine hK.out _ _ cz (fun hHeld => ?_)
      clear hK K
      refine norm_ (a' := ?_) ?_ ?_
      rotate_left
      ·show Act.put _ (some 37) _ = _
       exact pz
      refine oneZ 5 (some 39) #[true, true, true, true, true, true, false, false, false] (one_of HT_.out (by kernel_rfl)) fun K hK => ?_
      refine goes_ Tryd.func93 (by kernel_rfl) rfl #[.bool (t1473 == 1), .int .i64 3] (by rfl) rfl rfl mz ?_
      with_reducible refine (line_unless.calls (t1473 == 1) 3 t1476 _ A9.out).mono ?_
      rintro e w' ⟨rfl, ⟨nd, rfl⟩⟩
      refine ⟨_, rfl, ?_⟩
      refine hK.out _ _ cz (fun hHeld => ?_)
      clear hK K
      refine norm_ (a' := ?_) ?_ ?_
      rotate_left
      ·show Act.put _ (some 39) _ = _
       exact pz
      refine oneZ 6 (some 40) #[true, true, true, true, true, true, true, false, false] (one_of HT_.out (by kernel_rfl)) fun K hK => ?_
      refine Kd.R_lit_step (Kd.int .i64) _ 31 ?hg (N := 40) ?hd (xs := ([t1474, t1475, t1476] : List Int)) (inner := [.int .i64 t1474, .int .i64 t1475, .int .i64 t1476]) (ok := fun _ => True) (okp := fun _ => True) ?hr ?hp (fun _ hk => hk) trivial (Below.refl _ _) (Nat.le_refl _) (by simp) ?_; (case hd => rfl); (case hg => rfl); (case hr => first | (go_simp; done) | (go_simp; rfl)); (case hp => exact (Reps.one (show Kd.M (Kd.int .i64) _ _ _ t1474 [.int .i64 t1474] from rfl) (Reps.one (show Kd.M (Kd.int .i64) _ _ _ t1475 [.int .i64 t1475] from rfl) (Reps.one (show Kd.M (Kd.int .i64) _ _ _ t1476 [.int .i64 t1476] from rfl) (Reps.none _ _)))))
      intro v1478 w62 ho63 hb hg_ hnew_
      clear hg_ hnew_
      (first | rw [← Ny1477.out] at ho63 | (simp only [Int.reduceToNat] at ho63; rw [← Ny1477.out] at ho63))
      have HO1479 := m0 (Kd.R_lower (Kd.R_newB ho63 (g := gb1472) (o := .cells #[.int .i64 0] 31 (0, 0)) (bk BK1472.out)) (below_size bz)); replace BK1468 := bb BK1468 hb; replace BK1469 := bb BK1469 hb; replace BK1470 := bb BK1470 hb; replace BK1471 := bb BK1471 hb; replace BK1472 := bb BK1472 hb; replace HB := sb HB hb
      clear hb ho63
      obtain ⟨Ao64, co64, eo64⟩ := Kd.R_slice HO1479.out
      (first | subst eo64 | (injection eo64 with f1_ f2_ f3_; have f4_ := f1_.symm; have f5_ := f3_.symm; clear f1_ f2_ f3_; subst f4_; subst f5_))
      refine hK.out _ _ cz (fun hHeld => ?_)
      clear hK K
      refine norm_ (a' := ?_) ?_ ?_
      rotate_left
      ·show Act.put _ (some 40) _ = _
       exact pz
      refine oneZ 7 (some 41) #[true, true, true, true, true, true, true, true, false] (one_of HT_.out (by kernel_rfl)) fun K hK => ?_
      refine goes_ Tryd.func91 (by kernel_rfl) rfl #[.slice Ao64 y1477.length co64] (by rfl) rfl rfl mz ?_
      with_reducible refine (line_first.calls k _ _ y1477 t1480 _ ?side1 ?side2 A10.out).mono ?_
      (case side1 => exact bc (Kd.R_reads' HO1479.out).2.2)
      (case side2 => exact (Kd.R_reads' HO1479.out).2.1)
      rintro e w' ⟨rfl, ⟨nd, rfl⟩⟩
      refine ⟨_, rfl, ?_⟩
      refine hK.out _ _ cz (fun hHeld => ?_)
      clear hK K
      refine norm_ (a' := ?_) ?_ ?_
      rotate_left
      ·show Act.put _ (some 41) _ = _
       exact pz
      refine pureZ (i := 8) (N := some 9) #[true, true, true, true, true, true, true, true, true] HT_ ?_
      refine done_ (done_of HT_.out (by kernel_rfl)) ?_
      have hnb65 := NB1468_1469.out
      have hnc65 := NB1469_1468.out
      have hnb66 := NB1468_1471.out
      have hnc66 := NB1471_1468.out
      have hnb67 := NB1468_1472.out
      have hnc67 := NB1472_1468.out
      obtain ⟨_, _, _, _, _, _, _, _⟩ := b4 BK1468
      try go_wp2_with (first | ((with_reducible refine gate_callee (f := 121) rfl ?_); refine gl (some 51) Tryd.func121 #[.agg #[.slice A0_1 l0_1.length c0_1], .int .i64 (l0_0.length : Int)] ?_; (with_reducible refine (line_cases.calls k _ _ l0_1 (l0_0.length : Int) t1481 t1482 _ ?side1 ?side2 A12.out).mono ?_); (case side1 => repeat (first | exact (Kd.C_below HR0_1.out bz) | (with_reducible refine Kd.C_alloc ?_ _) | (with_reducible refine Kd.C_drewN ?_ _) | (with_reducible refine Kd.C_drew ?_))); (case side2 => exact HC0_1.out); rintro e w69 ⟨rfl, hb⟩; refine ⟨_, rfl, ?_⟩; replace HO1479 := rb HO1479 hb; replace BK1468 := bb BK1468 hb; replace BK1469 := bb BK1469 hb; replace BK1470 := bb BK1470 hb; replace BK1471 := bb BK1471 hb; replace BK1472 := bb BK1472 hb; replace HB := sb HB hb; (try clear hb); obtain ⟨_, _, _, _, _, _⟩ := b3 BK1470) | ((with_reducible refine gate_callee (f := 105) rfl ?_); refine gl (some 58) Tryd.func105 #[.int .i64 a2_2, .int .i64 0, .int .i64 (wrap64 (t1481 - 1))] ?_; (with_reducible refine (line_within.calls a2_2 0 (wrap64 (t1481 - 1)) true _ A13.out).mono ?_); rintro e w' ⟨rfl, ⟨nd, rfl⟩⟩; refine ⟨_, rfl, ?_⟩))
      (try (rw [drewN_self w69]; generalize hq_ : World.drewN w69 _ = w69; have n0_ : Aside0 (Kd.R (Kd.int .i64) 31 w69 w.heap.size (fun k_ => k_ ≠ gb1472) (.slice Ao64 y1477.length co64) y1477) := ⟨by rw [← hq_]; exact (by (with_reducible repeat (first | apply Kd.R_alloc | apply Kd.R_drewN | apply Kd.R_drew)); exact Kd.R_mono HO1479.out (fun _ hk => hk.2))⟩; have n1_ := gd BK1468 hq_; have n2_ := gd BK1469 hq_; have n3_ := gd BK1470 hq_; have n4_ := gd BK1471 hq_; have n5_ := gd BK1472 hq_; have n6_ := gs HB hq_; clear HO1479 BK1468 BK1469 BK1470 BK1471 BK1472 HB hq_; have HO1479 := n0_; have BK1468 := n1_; have BK1469 := n2_; have BK1470 := n3_; have BK1471 := n4_; have BK1472 := n5_; have HB := n6_; clear n0_ n1_ n2_ n3_ n4_ n5_ n6_))
      replace HO1479 := m0 (Kd.R_drew HO1479.out); replace BK1468 := bd BK1468; replace BK1469 := bd BK1469; replace BK1470 := bd BK1470; replace BK1471 := bd BK1471; replace BK1472 := bd BK1472; replace HB := sd HB
      refine start_ (n := 14) (S := fun w' => w'.cell? ⟨gb1468, 0, none⟩ = some (.slice A0_0 l0_0.length c0_0) ∧ w'.cell? ⟨gb1468, 1, none⟩ = some (.slice A0_1 l0_1.length c0_1) ∧ w'.cell? ⟨gb1468, 2, none⟩ = some (.int .i64 a0_2) ∧ w'.cell? ⟨gb1468, 3, none⟩ = some (.int .i64 a0_3) ∧ w'.cell? ⟨gb1470, 0, none⟩ = some (.int .i64 a2_0) ∧ w'.cell? ⟨gb1470, 1, none⟩ = some (.int .i64 a2_1) ∧ w'.cell? ⟨gb1470, 2, none⟩ = some (.int .i64 a2_2) ∧ w'.cell? ⟨gb1469, 0, none⟩ = some (.int .i64 a1)) (ds := []) #[false, false, false, false, false, false, false, false, false, false, false, false, false, false] (by kernel_rfl) rfl rfl cz (fun hHeld => ?_); refine with_tabW line_CheckWorst.tab8 line_CheckWorst.bits8 (fun HT_ HW_ => ?_)
      generalize w69.drew = w71 at HO1479 BK1468 BK1469 BK1470 BK1471 BK1472 HB hHeld ⊢
      refine pureZ (i := 0) (N := some 60) (bs 14 1) HT_ ?_
      refine pureZ (i := 2) (N := some 62) (bs 14 5) HT_ ?_
      refine pureZ (i := 4) (N := some 64) (bs 14 21) HT_ ?_
      refine pureZ (i := 8) (N := some 68) (bs 14 277) HT_ ?_
      refine pureZ (i := 11) (N := some 71) (bs 14 2325) HT_ ?_
      refine takeZ 1 (some 61) (bs 14 2327) (take_ofW HT_.out HW_.out (by kernel_rfl)) hHeld ?_
      refine takeZ 3 (some 63) (bs 14 2335) (take_ofW HT_.out HW_.out (by kernel_rfl)) hHeld ?_
      refine takeZ 5 (some 65) (bs 14 2367) (take_ofW HT_.out HW_.out (by kernel_rfl)) hHeld ?_
      refine takeZ 7 (some 67) (bs 14 2495) (take_ofW HT_.out HW_.out (by kernel_rfl)) hHeld ?_
      refine takeZ 9 (some 69) (bs 14 3007) (take_ofW HT_.out HW_.out (by kernel_rfl)) hHeld ?_
      refine takeZ 12 (some 72) (bs 14 7103) (take_ofW HT_.out HW_.out (by kernel_rfl)) hHeld ?_
      refine oneZ 6 (some 66) (bs 14 7167) (one_of HT_.out (by kernel_rfl)) fun K hK => ?_
      refine goes_ Tryd.func123 (by kernel_rfl) rfl #[.slice A0_0 l0_0.length c0_0, .agg #[.slice A0_1 l0_1.length c0_1], .int .i64 a2_2] (by rfl) rfl rfl mz ?_
      with_reducible refine (line_noisy.calls k _ _ l0_0 _ _ l0_1 a2_2 t1484 _ ?side1 ?side2 ?side3 ?side4 A15.out).mono ?_
      (case side1 => exact cb HR0_0 HB)
      (case side2 => exact HC0_0.out)
      (case side3 => exact cb HR0_1 HB)
      (case side4 => exact HC0_1.out)
      rintro e w72 ⟨v1485, rfl, ho0, hb⟩
      refine ⟨_, rfl, ?_⟩
      replace HO1479 := rb HO1479 hb; have HO1486 := m0 (Kd.R_lower (Kd.R_newB (Kd.R_newB ho0 (g := gb1469) (o := .cells #[.int .i64 a1] 3 (0, 0)) (bk BK1469.out)) (g := gb1471) (o := .cells #[.int .i64 0] 3 (0, 0)) (bk BK1471.out)) (below_size bz)); replace BK1468 := bb BK1468 hb; replace BK1469 := bb BK1469 hb; replace BK1470 := bb BK1470 hb; replace BK1471 := bb BK1471 hb; replace BK1472 := bb BK1472 hb; replace HB := sb HB hb
      (try clear hb)
      (try clear ho0)
      obtain ⟨Ao73, co73, eo73⟩ := Kd.R_slice HO1486.out
      (first | subst eo73 | (injection eo73 with f1_ f2_ f3_; have f4_ := f1_.symm; have f5_ := f3_.symm; clear f1_ f2_ f3_; subst f4_; subst f5_))
      refine hK.out _ _ cz (fun hHeld => ?_)
      clear hK K
      refine norm_ (a' := ?_) ?_ ?_
      rotate_left
      ·show Act.put _ (some 66) _ = _
       exact pz
      refine oneZ 10 (some 70) (bs 14 8191) (one_of HT_.out (by kernel_rfl)) fun K hK => ?_
      refine goes_ Tryd.func128 (by kernel_rfl) rfl #[.slice Ao73 t1484.length co73, .int .i64 a1, .agg #[.int .i64 a0_2, .int .i64 a0_3]] (by rfl) rfl rfl mz ?_
      with_reducible refine (line_miss.calls k _ _ t1484 a1 a0_2 a0_3 t1487 t1488 _ ?side1 ?side2 ?side3 A16.out).mono ?_
      (case side1 => exact bc (Kd.R_reads' HO1486.out).2.2)
      (case side2 => exact (Kd.R_reads' HO1486.out).2.1)
      (case side3 => exact EstG.below HG.out bz)
      rintro e w74 ⟨rfl, hb⟩
      refine ⟨_, rfl, ?_⟩
      replace HO1479 := rb HO1479 hb; replace HO1486 := rb HO1486 hb; replace BK1468 := bb BK1468 hb; replace BK1469 := bb BK1469 hb; replace BK1470 := bb BK1470 hb; replace BK1471 := bb BK1471 hb; replace BK1472 := bb BK1472 hb; replace HB := sb HB hb
      (try clear hb)
      refine hK.out _ _ cz (fun hHeld => ?_)
      clear hK K
      refine norm_ (a' := ?_) ?_ ?_
      rotate_left
      ·show Act.put _ (some 70) _ = _
       exact pz
      refine pureZ (i := 13) (N := some 73) (bs 14 16383) HT_ ?_
      refine done_ (done_of HT_.out (by kernel_rfl)) ?_
      obtain ⟨_, _, _, _, _, _, _, _⟩ := b4 BK1468
      try go_wp2
      unfold line_CheckWorst_rest.f at H
      obtain ⟨⟨all, few⟩, hall, H⟩ := ob H
      by_cases h0 : 0 ≤ all
      case neg => rw [if_neg h0] at H; exact absurd H (by simp)
      rw [if_pos h0] at H
      by_cases hbig : all ≤ 1000000
      case neg => rw [if_neg hbig] at H; exact absurd H (by simp)
      rw [if_pos hbig] at H
      obtain ⟨fin, hit, H⟩ := ob H
      replace H := Option.some.inj H
      replace hit : iterN (line_CheckWorst_rest.step k l0_0 l0_1 a0_2 a0_3 a1 a2_0 a2_1) all.toNat (-1) = some fin := hit
      replace hall : line_cases.f k l0_1 l0_0.length = some (all, few) := hall
      have n67 := NB1471_1472.out
      have n36 := NB1468_1471.out
      have n37 := NB1468_1472.out
      have n46 := NB1469_1471.out
      have n47 := NB1469_1472.out
      have n56 := NB1470_1471.out
      have n57 := NB1470_1472.out
      have e6 := GE1471.out
      have e7 := GE1472.out
      obtain ⟨Wb, hWb⟩ := world_of BK1468.out
      subst hWb
      obtain ⟨W0, hW0⟩ : ∃ W0, (Wb.alloc (.cells #[.slice A0_0 l0_0.length c0_0] 22)).alloc (.cells #[.slice A0_1 l0_1.length c0_1] 24) = W0 := ⟨_, rfl⟩
      have hz : W0.heap.size = Wb.heap.size + 2 := by rw [← hW0]; simp
      have hb0 : Below w.heap.size w W0 := by rw [← hW0]; exact bz
      have k3 : W0.heap[gb1468]? = some (.cells #[.slice A0_0 l0_0.length c0_0, .slice A0_1 l0_1.length c0_1, .int .i64 a0_2, .int .i64 a0_3] 28 (0, 0)) := by rw [← hW0]; exact (bk BK1468.out)
      have k4 : W0.heap[gb1469]? = some (.cells #[.int .i64 a1] 3 (0, 0)) := by rw [← hW0]; exact (bk BK1469.out)
      have k5 : W0.heap[gb1470]? = some (.cells #[.int .i64 a2_0, .int .i64 a2_1, .int .i64 a2_2] 36 (0, 0)) := by rw [← hW0]; exact (bk BK1470.out)
      have k6 : W0.heap[gb1471]? = some (.cells #[.int .i64 0] 3 (0, 0)) := by rw [← hW0]; exact (bk BK1471.out)
      have k7 : W0.heap[gb1472]? = some (.cells #[.int .i64 0] 31 (0, 0)) := by rw [← hW0]; exact (bk BK1472.out)
      have l6 := blk_lt BK1471.out
      have l7 := blk_lt BK1472.out
      have ks : W0.heap[Wb.heap.size]? = some (.cells #[.slice A0_0 l0_0.length c0_0] 22 (0, 0)) := by
       rw [← hW0]; apply blk_alloc
       have := blk_new Wb (.cells #[.slice A0_0 l0_0.length c0_0] 22 (0, 0)); simpa using this
      have kx : W0.heap[Wb.heap.size + 1]? = some (.cells #[.slice A0_1 l0_1.length c0_1] 24 (0, 0)) := by
       rw [← hW0]
       have := blk_new (Wb.alloc (.cells #[.slice A0_0 l0_0.length c0_0] 22)) (.cells #[.slice A0_1 l0_1.length c0_1] 24 (0, 0)); simpa using this
      rw [hW0]
      clear hW0
      have hrow : ∀ j : Nat, (j : Int) < all → line_noisy.f k l0_0 l0_1 j = some ((line_noisy.f k l0_0 l0_1 j).getD []) := fun j hj => by
       obtain ⟨q, hq⟩ := iterN_pre hit (show j ≤ all.toNat by omega)
       obtain ⟨q', hq', _⟩ := iterN_at hit (show j < all.toNat by omega) hq
       obtain ⟨row, hr, _⟩ := Option.bind_eq_some_iff.mp hq'
       rw [hr]; rfl
      have hkeep : ∀ (d j : Nat) (x : Int), x ≠ -1 → iterN (line_CheckWorst_rest.step k l0_0 l0_1 a0_2 a0_3 a1 a2_0 a2_1) j (-1) = some x → j + d = all.toNat → fin = x := fun d => by
       induction d with
       | zero =>
        intro j x hx hj e
        rw [Nat.add_zero] at e
        rw [e, hit] at hj
        exact Option.some.inj hj
       | succ d ih =>
        intro j x hx hj e
        obtain ⟨q', hq', hq1⟩ := iterN_at hit (show j < all.toNat by omega) hj
        obtain ⟨row, hr, hq'⟩ := Option.bind_eq_some_iff.mp hq'
        rw [if_neg hx] at hq'
        obtain rfl := Option.some.inj hq'
        exact ih (j + 1) _ hx hq1 (by omega)
      have hY := line_each.yields 8 k (by decide) A0_0 A0_1 c0_0 c0_1 l0_0 l0_1 all few (fun j => (line_noisy.f k l0_0 l0_1 j).getD []) w (Wb.heap.size + 1) Wb.heap.size W0 hb0 ((blk_cell kx 0).trans rfl) ((blk_cell ks 0).trans rfl) HR0_0.out HC0_0.out HR0_1.out HC0_1.out hall h0 hbig hrow
      have HIT := m0 hit
      have HY := m0 hY
      have HKEEP := m0 hkeep
      refine wpIn_wide.1 (wpIn_rangeN2 (n := 9) rfl (by decide) (gf := 131) (lb := #[.pointer (some ⟨Wb.heap.size + 1, 0, none⟩), .pointer (some ⟨Wb.heap.size, 0, none⟩)]) rfl trivial (enters_of Tryd.func131 (by kernel_rfl) rfl) HY.out
       (line_each.Rd_putObj) (fun h k => h.trans k) (fun W l o o' hl h hc hw => line_each.Kp_putObj (w := W0) (v1 := undef) (v2 := undef) (Nat.le_trans hb0.size (Nat.le_refl _)) W l o o' hl h hc hw (by omega) (by omega)) (Below.refl _ _) (fun _ _ => rfl)
       (fun j W => (iterN (line_CheckWorst_rest.step k l0_0 l0_1 a0_2 a0_3 a1 a2_0 a2_1) j (-1) = some (-1) ∧ W.heap[gb1471]? = some (.cells #[.int .i64 0] 3 (0, 0)) ∧ W.heap[gb1472]? = some (.cells #[.int .i64 0] 31 (0, 0)) ∧ W.heap[gb1468]? = some (.cells #[.slice A0_0 l0_0.length c0_0, .slice A0_1 l0_1.length c0_1, .int .i64 a0_2, .int .i64 a0_3] 28 (0, 0)) ∧ W.heap[gb1469]? = some (.cells #[.int .i64 a1] 3 (0, 0)) ∧ W.heap[gb1470]? = some (.cells #[.int .i64 a2_0, .int .i64 a2_1, .int .i64 a2_2] 36 (0, 0)) ∧ W0.heap.size ≤ W.heap.size) ∧ Below w.heap.size w W)
       (fun cd _ W => (cd = Code.ret ∧ fin ≠ -1 ∧ W.heap[gb1471]? = some (.cells #[.int .i64 fin] 3 (0, 0)) ∧ W.heap[gb1472]? = some (.cells #[.int .i64 17] 31 (0, 0)) ∧ W0.heap.size ≤ W.heap.size) ∧ Below w.heap.size w W)
       (OwnFrom.and (fun j A B row hs hg hr => by
        obtain ⟨h1, h2, h3, h4, h5, h6, h7⟩ := hs
        exact ⟨h1, blk_own h2 hg hr, blk_own h3 hg hr, blk_own h4 hg hr, blk_own h5 hg hr, blk_own h6 hg hr, Nat.le_trans h7 hg.size⟩) (ownFrom_below (Nat.le_refl _) hb0.size))
       (fun cd => OwnFrom.and (fun j A B row hs hg hr => by
        obtain ⟨h1, h2, h3, h4, h5⟩ := hs
        exact ⟨h1, h2, blk_own h3 hg hr, blk_own h4 hg hr, Nat.le_trans h5 hg.size⟩) (ownFrom_below (Nat.le_refl _) hb0.size))
       ⟨⟨rfl, k6, k7, k3, k4, k5, Nat.le_refl _⟩, hb0⟩ ?round ?done ?stop)
      case stop =>
       rintro D c j W hD hj ⟨⟨rfl, hne, h6, h7, hsz⟩, hB⟩ hK
       rw [if_neg hne] at H
       obtain ⟨rfl, rfl⟩ := Prod.mk.inj H
       have hK' := hK
       refine wpIn_wide.2 ?_
       go_wp2
       refine ⟨by simp, .inl ⟨_, _, rfl, run_takeDeferred hK, ?_⟩⟩
       exact ⟨_, results_11 rfl _ _ gb1471 gb1472 3 31 #[.int .i64 fin] #[.int .i64 17] (0, 0) (0, 0) _ _ rfl ((World.putObj_heap_other (show gb1471 ≠ D by omega)).trans h6) Tryd.underlying3 rfl (by kernel_rfl) rfl ((World.putObj_heap_other (show gb1472 ≠ D by omega)).trans h7) Tryd.underlying31 rfl (by kernel_rfl), rfl, hB.trans (belowK_b (w := w) (Nat.le_refl _) _ D _ _ (Nat.le_trans hb0.size hD) hK rfl rfl)⟩
      case round =>
       as_aux_lemma =>
       intro l j x W K hj hK
       have HKK := m0 hK
       clear hK
       gi_wp2
       refine HKK.out _ ?_
       clear HKK
       rintro W ⟨⟨hs, h6, h7, h3, h4, h5, hsz⟩, hB⟩ ⟨A, c, hx, hc, hC, hm⟩
       obtain ⟨q', hq', hq1⟩ := iterN_at HIT.out hj hs
       obtain ⟨row, hr, hq'⟩ := Option.bind_eq_some_iff.mp hq'
       rw [if_pos rfl] at hq'
       obtain ⟨⟨m1, m2⟩, hmx, hq'⟩ := Option.bind_eq_some_iff.mp hq'
       obtain ⟨b, hls, hq'⟩ := Option.bind_eq_some_iff.mp hq'
       have er : (line_noisy.f k l0_0 l0_1 (j : Int)).getD [] = row := by rw [hr]; rfl
       simp only [er] at hx hc hC
       subst hx
       obtain rfl := Option.some.inj hq'
       replace hls : line_less.f a2_0 a2_1 m1 m2 = some b := hls
       have hEst := EstG.below HG.out hB
       have hcall : ∀ W5 : World, W5.heap = W.heap → W5.os = W.os → W5.tape = W.tape → W5.output = W.output → Calls Tryd.prog 128 #[.slice A row.length c, .int .i64 a1, .agg #[.int .i64 a0_2, .int .i64 a0_3]] W5 fun e w5 => e = .returned (.agg #[.int .i64 m1, .int .i64 m2]) ∧ w5.heap[gb1468]? = some (.cells #[.slice A0_0 l0_0.length c0_0, .slice A0_1 l0_1.length c0_1, .int .i64 a0_2, .int .i64 a0_3] 28 (0, 0)) ∧ w5.heap[gb1469]? = some (.cells #[.int .i64 a1] 3 (0, 0)) ∧ w5.heap[gb1470]? = some (.cells #[.int .i64 a2_0, .int .i64 a2_1, .int .i64 a2_2] 36 (0, 0)) ∧ Aside0 (Below W.heap.size W w5) := fun W5 hh ho ht hp => by
        refine (line_miss.calls k A c row a1 a0_2 a0_3 m1 m2 W5 (C_blocks hC (fun ad e => by rw [hh])) hc (EstG.below hEst ⟨ho, ht, hp, by rw [hh]; exact Nat.le_refl _, fun i _ => by rw [hh]⟩) hmx).mono ?_
        rintro e w5 ⟨rfl, hb⟩
        have hb' := below_heap hb hh ho ht hp
        exact ⟨rfl, blk_below h3 hb', blk_below h4 hb', blk_below h5 hb', ⟨hb'⟩⟩
       have HCALL := m0 hcall
       have hpan : ∀ cc a w', ¬ (leftN (line_each.Kp w.heap.size (Wb.heap.size + 1) Wb.heap.size) (fun j W => (iterN (line_CheckWorst_rest.step k l0_0 l0_1 a0_2 a0_3 a1 a2_0 a2_1) j (-1) = some (-1) ∧ W.heap[gb1471]? = some (.cells #[.int .i64 0] 3 (0, 0)) ∧ W.heap[gb1472]? = some (.cells #[.int .i64 0] 31 (0, 0)) ∧ W.heap[gb1468]? = some (.cells #[.slice A0_0 l0_0.length c0_0, .slice A0_1 l0_1.length c0_1, .int .i64 a0_2, .int .i64 a0_3] 28 (0, 0)) ∧ W.heap[gb1469]? = some (.cells #[.int .i64 a1] 3 (0, 0)) ∧ W.heap[gb1470]? = some (.cells #[.int .i64 a2_0, .int .i64 a2_1, .int .i64 a2_2] 36 (0, 0)) ∧ W0.heap.size ≤ W.heap.size) ∧ Below w.heap.size w W) (fun cd _ W => (cd = Code.ret ∧ fin ≠ -1 ∧ W.heap[gb1471]? = some (.cells #[.int .i64 fin] 3 (0, 0)) ∧ W.heap[gb1472]? = some (.cells #[.int .i64 17] 31 (0, 0)) ∧ W0.heap.size ≤ W.heap.size) ∧ Below w.heap.size w W) (j + 1) W) (.panic cc) a w' := fun _ _ _ h => h
       have hout : ¬ LetsOut (leftN (line_each.Kp w.heap.size (Wb.heap.size + 1) Wb.heap.size) (fun j W => (iterN (line_CheckWorst_rest.step k l0_0 l0_1 a0_2 a0_3 a1 a2_0 a2_1) j (-1) = some (-1) ∧ W.heap[gb1471]? = some (.cells #[.int .i64 0] 3 (0, 0)) ∧ W.heap[gb1472]? = some (.cells #[.int .i64 0] 31 (0, 0)) ∧ W.heap[gb1468]? = some (.cells #[.slice A0_0 l0_0.length c0_0, .slice A0_1 l0_1.length c0_1, .int .i64 a0_2, .int .i64 a0_3] 28 (0, 0)) ∧ W.heap[gb1469]? = some (.cells #[.int .i64 a1] 3 (0, 0)) ∧ W.heap[gb1470]? = some (.cells #[.int .i64 a2_0, .int .i64 a2_1, .int .i64 a2_2] 36 (0, 0)) ∧ W0.heap.size ≤ W.heap.size) ∧ Below w.heap.size w W) (fun cd _ W => (cd = Code.ret ∧ fin ≠ -1 ∧ W.heap[gb1471]? = some (.cells #[.int .i64 fin] 3 (0, 0)) ∧ W.heap[gb1472]? = some (.cells #[.int .i64 17] 31 (0, 0)) ∧ W0.heap.size ≤ W.heap.size) ∧ Below w.heap.size w W) (j + 1) W) := fun ⟨_, _, h⟩ => h
       generalize hLEFT : leftN _ _ _ _ _ = LFT at hpan hout ⊢
       have hyes : ∀ (w7 : World) (a : Act), Aside0 (Below W.heap.size W w7) → b = true → LFT Exit.ret a ((w7.setCell ⟨gb1471, 0, none⟩ (.int .i64 (j : Int))).setCell ⟨gb1472, 0, none⟩ (.int .i64 17)) := by
        intro w7 a hb' ht
        have hb := hb'.out
        rw [← hLEFT]
        have hsz' := hb.size
        have g6 := blk_below h6 hb
        have g7 := blk_below h7 hb
        have hf : fin = (j : Int) := HKEEP.out (all.toNat - (j + 1)) (j + 1) (j : Int) (by omega) (by rw [if_pos ht] at hq1; exact hq1) (by omega)
        refine ⟨((others_below hb).trans (KeepsOthers.setCell _ _ _)).trans (KeepsOthers.setCell _ _ _), ⟨rfl, by rw [hf]; omega, ?_, ?_, ?_⟩, ?_⟩
        ·rw [hf]; exact blk_ne_set (blk_put g6 0 _ rfl) n67
        ·exact blk_put (blk_ne_set g7 (fun e => n67 e.symm)) 0 _ rfl
        ·simpa [World.setCell] using Nat.le_trans hsz hsz'
        ·exact ((hB.trans (hb.mono (Nat.le_trans hb0.size hsz))).setCell (p := ⟨gb1471, 0, none⟩) e6 _).setCell (p := ⟨gb1472, 0, none⟩) e7 _
       have hno : ∀ (w7 : World) (a : Act), Aside0 (Below W.heap.size W w7) → b = false → LFT Exit.normal a w7 := by
        intro w7 a hb' ht
        have hb := hb'.out
        rw [← hLEFT]
        refine ⟨others_below hb, (show line_each.Kp w.heap.size (Wb.heap.size + 1) Wb.heap.size W w7 from ⟨hb.mono (Nat.le_trans hb0.size hsz), World.cell?_of_block (hb.block _ (show Wb.heap.size + 1 < _ by omega)), World.cell?_of_block (hb.block _ (show Wb.heap.size < _ by omega))⟩), ⟨?_, blk_below h6 hb, blk_below h7 hb, blk_below h3 hb, blk_below h4 hb, blk_below h5 hb, Nat.le_trans hsz hb.size⟩, hB.trans (hb.mono (Nat.le_trans hb0.size hsz))⟩
        rw [if_neg (by rw [ht]; decide)] at hq1; exact hq1
       have HYES := m0 hyes
       have HNO := m0 hno
       have N67 := m0 n67
       have HPAN := m0 hpan
       have HOUT := m0 hout
       have HLS := m0 hls
       have HS6 := m0 h6
       have HS7 := m0 h7
       have c50 : W.cell? ⟨gb1470, 0, none⟩ = some (.int .i64 a2_0) := (blk_cell h5 0).trans rfl
       have c51 : W.cell? ⟨gb1470, 1, none⟩ = some (.int .i64 a2_1) := (blk_cell h5 1).trans rfl
       have c40 : W.cell? ⟨gb1469, 0, none⟩ = some (.int .i64 a1) := (blk_cell h4 0).trans rfl
       have c32 : W.cell? ⟨gb1468, 2, none⟩ = some (.int .i64 a0_2) := (blk_cell h3 2).trans rfl
       have c33 : W.cell? ⟨gb1468, 3, none⟩ = some (.int .i64 a0_3) := (blk_cell h3 3).trans rfl
       have hmo : Tryd.prog.follows .mixedOrders = true := by kernel_rfl
       clear hpan hout hyes hno hLEFT hcall hs hr hmx hls hq1 hC hm hB h6 h7 h3 h4 h5 hsz hc hj er hEst hrow hkeep hY k3 k4 k5 k6 k7 ks kx hb0 hz hall h0 hbig hit H n67 n36 n37 n46 n47 n56 n57 e6 e7 l6 l7
       gi_wp2
       refine startR_ (S := fun w' => w'.cell? ⟨gb1470, 0, none⟩ = some (.int .i64 a2_0) ∧ w'.cell? ⟨gb1470, 1, none⟩ = some (.int .i64 a2_1) ∧ w'.cell? ⟨gb1469, 0, none⟩ = some (.int .i64 a1) ∧ w'.cell? ⟨gb1468, 2, none⟩ = some (.int .i64 a0_2) ∧ w'.cell? ⟨gb1468, 3, none⟩ = some (.int .i64 a0_3)) (ds := []) #[false, false, false, false, false, false, false, false] hmo (by kernel_rfl) (fun ⟨a_, w_, h_⟩ => HOUT.out ⟨a_, w_, h_⟩) rfl rfl ⟨c50, c51, c40, c32, c33⟩ (fun hHeld => ?_)
       refine with_tabW line_CheckWorst_rest.tab13 line_CheckWorst_rest.bits13 (fun HT_ HW_ => ?_)
       refine pure_ (i := 0) (N := some 81) (v := ?_) (a' := ?_) #[true, false, false, false, false, false, false, false] rfl rfl (any_of HT_.out (by kernel_rfl)) (fun _ _ _ h => (HPAN.out _ _ _ h).elim) (Or.inl ⟨by rfl, ?_⟩) ?_ ?_
       rotate_left
       ·intro w'
        go_simp
        with_reducible rfl
       rotate_left
       ·exact pz
       refine take_ (i := 1) (N := some 82) (v := ?_) (a' := ?_) #[true, true, false, false, false, false, false, false] rfl rfl (take_ofW HT_.out HW_.out (by kernel_rfl)) (fun _ _ _ h => (HPAN.out _ _ _ h).elim) (Or.inl ⟨by rfl, ?_⟩) hHeld ?_ ?_
       rotate_left
       ·rintro w' ⟨s0, s1, s2, s3, s4⟩
        go_simp
        with_reducible rfl
       rotate_left
       ·exact pz
       refine pure_ (i := 2) (N := some 83) (v := ?_) (a' := ?_) #[true, true, true, false, false, false, false, false] rfl rfl (any_of HT_.out (by kernel_rfl)) (fun _ _ _ h => (HPAN.out _ _ _ h).elim) (Or.inl ⟨by rfl, ?_⟩) ?_ ?_
       rotate_left
       ·intro w'
        go_simp
        with_reducible rfl
       rotate_left
       ·exact pz
       refine take_ (i := 3) (N := some 84) (v := ?_) (a' := ?_) #[true, true, true, true, false, false, false, false] rfl rfl (take_ofW HT_.out HW_.out (by kernel_rfl)) (fun _ _ _ h => (HPAN.out _ _ _ h).elim) (Or.inl ⟨by rfl, ?_⟩) hHeld ?_ ?_
       rotate_left
       ·rintro w' ⟨s0, s1, s2, s3, s4⟩
        go_simp
        with_reducible rfl
       rotate_left
       ·exact pz
       refine pure_ (i := 4) (N := some 85) (v := ?_) (a' := ?_) #[true, true, true, true, true, false, false, false] rfl rfl (any_of HT_.out (by kernel_rfl)) (fun _ _ _ h => (HPAN.out _ _ _ h).elim) (Or.inl ⟨by rfl, ?_⟩) ?_ ?_
       rotate_left
       ·intro w'
        go_simp
        with_reducible rfl
       rotate_left
       ·exact pz
       refine take_ (i := 5) (N := some 86) (v := ?_) (a' := ?_) #[true, true, true, true, true, true, false, false] rfl rfl (take_ofW HT_.out HW_.out (by kernel_rfl)) (fun _ _ _ h => (HPAN.out _ _ _ h).elim) (Or.inl ⟨by rfl, ?_⟩) hHeld ?_ ?_
       rotate_left
       ·rintro w' ⟨s0, s1, s2, s3, s4⟩
        go_simp
        with_reducible rfl
       rotate_left
       ·exact pz
       refine oneZ 6 (some 87) #[true, true, true, true, true, true, true, false] (one_of HT_.out (by kernel_rfl)) fun K hK => ?_
       refine goes_ Tryd.func128 (by kernel_rfl) rfl #[.slice A row.length c, .int .i64 a1, .agg #[.int .i64 a0_2, .int .i64 a0_3]] (by rfl) rfl rfl (by (try simp only [List.map_toArray, List.map_cons, List.map_nil]); first | done | rfl) ?_
       refine (HCALL.out _ (by rfl) (by rfl) (by rfl) (by rfl)).mono ?_
       rintro e w5 ⟨rfl, g3, g4, g5, HX⟩
       refine ⟨_, rfl, ?_⟩
       refine hK.out _ _ ⟨(blk_cell g5 0).trans rfl, (blk_cell g5 1).trans rfl, (blk_cell g4 0).trans rfl, (blk_cell g3 2).trans rfl, (blk_cell g3 3).trans rfl⟩ (fun hHeld => ?_)
       clear hK K
       refine norm_ (a' := ?_) ?_ ?_
       rotate_left
       ·show Act.put _ (some 87) _ = _
        exact pz
       refine oneZ 7 (some 88) #[true, true, true, true, true, true, true, true] (one_of HT_.out (by kernel_rfl)) fun K hK => ?_
       refine goes_ Tryd.func126 (by kernel_rfl) rfl #[.agg #[.int .i64 a2_0, .int .i64 a2_1], .agg #[.int .i64 m1, .int .i64 m2]] (by rfl) rfl rfl (by (try simp only [List.map_toArray, List.map_cons, List.map_nil]); first | done | rfl) ?_
       refine (line_less.calls a2_0 a2_1 m1 m2 b _ HLS.out).mono ?_
       rintro e w7 ⟨rfl, hb7⟩
       have HX7 : Aside0 (Below W.heap.size W w7) := ⟨below_then HX.out HX.out.size hb7⟩
       have g3' := blk_below g3 hb7
       have g4' := blk_below g4 hb7
       have g5' := blk_below g5 hb7
       refine ⟨_, rfl, ?_⟩
       refine hK.out _ _ ⟨(blk_cell g5' 0).trans rfl, (blk_cell g5' 1).trans rfl, (blk_cell g4' 0).trans rfl, (blk_cell g3' 2).trans rfl, (blk_cell g3' 3).trans rfl⟩ (fun hHeld => ?_)
       clear hK K
       refine norm_ (a' := ?_) ?_ ?_
       rotate_left
       ·show Act.put _ (some 88) _ = _
        exact pz
       refine done_ (done_of HT_.out (by kernel_rfl)) ?_
       have q6 := blk_below HS6.out HX7.out
       have q7 := blk_below HS7.out HX7.out
       have d6 : w7.cell? ⟨gb1471, 0, none⟩ = some (.int .i64 0) := (blk_cell q6 0).trans rfl
       have d7 : w7.cell? ⟨gb1472, 0, none⟩ = some (.int .i64 0) := (blk_cell q7 0).trans rfl
       have f6 := blk_frozen q6 0
       have f7 := blk_frozen q7 0
       have hnb := N67.out
       have hnc := fun e => N67.out (Eq.symm e)
       clear g3 g4 g5 g3' g4' g5' hb7 q6 q7 hHeld c50 c51 c40 c32 c33 hmo HCALL
       cases b with
       | true =>
        gi_wp2
        exact HYES.out _ _ HX7 (by simp)
       | false =>
        gi_wp2
        exact HNO.out _ _ HX7 (by simp)
      case done =>
       rintro D W hD ⟨⟨hs, h6, h7, h3, h4, h5, hsz⟩, hB⟩ hK
       rw [HIT.out] at hs
       cases hs
       rw [if_pos rfl] at H
       obtain ⟨rfl, rfl⟩ := Prod.mk.inj H
       have c6 : W.cell? ⟨gb1471, 0, none⟩ = some (.int .i64 0) := (blk_cell h6 0).trans rfl
       have c7 : W.cell? ⟨gb1472, 0, none⟩ = some (.int .i64 0) := (blk_cell h7 0).trans rfl
       have f6 := blk_frozen h6 0
       have f7 := blk_frozen h7 0
       have hnb := n67
       have hnc := fun e => n67 (Eq.symm e)
       go_wp2
       have hK6 : ((W.setCell ⟨gb1471, 0, none⟩ (.int .i64 0)).setCell ⟨gb1472, 0, none⟩ (.int .i64 0)).heap[D]? = some (.deferred (some [])) := blk_ne_set (blk_ne_set hK (by omega)) (by omega)
       refine ⟨by simp, .inl ⟨_, _, rfl, run_takeDeferred hK6, ?_⟩⟩
       exact ⟨_, results_11 rfl _ _ gb1471 gb1472 3 31 #[.int .i64 0] #[.int .i64 0] (0, 0) (0, 0) _ _ rfl ((World.putObj_heap_other (show gb1471 ≠ D by omega)).trans (blk_ne_set (blk_put h6 0 _ rfl) n67)) Tryd.underlying3 rfl (by kernel_rfl) rfl ((World.putObj_heap_other (show gb1472 ≠ D by omega)).trans (blk_put (blk_ne_set h7 (fun e => n67 e.symm)) 0 _ rfl)) Tryd.underlying31 rfl (by kernel_rfl), rfl, ((hB.setCell (p := ⟨gb1471, 0, none⟩) e6 _).setCell (p := ⟨gb1472, 0, none⟩) e7 _).trans (belowK_b (w := w) (Nat.le_refl _) _ D _ _ (Nat.le_trans hb0.size hD) hK6 rfl rfl)⟩
    ·replace c14 := Bool.eq_false_iff.mpr c14
     subst c14
     rw [if_neg (show ¬ (false = true) by decide)] at H
     simp only [Option.some.injEq, Prod.mk.injEq] at H
     obtain ⟨rfl, rfl⟩ := H
     refine (callsIn_wide (n := 9)).1 (callsIn_of_wp_marks Tryd.func69 rfl trivial (wpIn_mono (Q := QM 9 Tryd.prog Tryd.f69 _) (wpIn_wide.2 ?_) (fun _ _ _ h => QM.le h)) rfl)
     simp only [Tryd.ntmps69, List.size_toArray, List.length_cons, List.length_nil, Nat.reduceAdd, Nat.reduceSub, Array.replicate_succ, Array.replicate_zero, List.push_toArray, List.append_toArray, List.nil_append, List.cons_append]
     try go_wp2_with (first | ((with_reducible refine gate_dst (N := 3) rfl ?_); refine be 3 28 #[.slice A0_0 l0_0.length c0_0, .slice A0_1 l0_1.length c0_1, .int .i64 a0_2, .int .i64 a0_3] ?_; intro gb1468 hg w76 hbox hb; have BK1468 := m0 hbox; have GW1468 := m0 (bg (n := w.heap.size) hg); have GE1468 := m0 (bg (n := w.heap.size) hg); replace HB := sb HB hb; clear hb hbox hg) | ((with_reducible refine gate_dst (N := 4) rfl ?_); refine be 4 3 #[.int .i64 a1] ?_; intro gb1469 hg w77 hbox hb; have BK1469 := m0 hbox; have GW1469 := m0 (bg (n := w.heap.size) hg); have GE1469 := m0 (bg (n := w.heap.size) hg); replace HB := sb HB hb; have NB1468_1469 := nl BK1468 hg; have NB1469_1468 := ng (nl BK1468 hg); replace BK1468 := bb BK1468 hb; clear hb hbox hg) | ((with_reducible refine gate_dst (N := 5) rfl ?_); refine be 5 36 #[.int .i64 a2_0, .int .i64 a2_1, .int .i64 a2_2] ?_; intro gb1470 hg w78 hbox hb; have BK1470 := m0 hbox; have GW1470 := m0 (bg (n := w.heap.size) hg); have GE1470 := m0 (bg (n := w.heap.size) hg); replace HB := sb HB hb; have NB1468_1470 := nl BK1468 hg; have NB1470_1468 := ng (nl BK1468 hg); replace BK1468 := bb BK1468 hb; have NB1469_1470 := nl BK1469 hg; have NB1470_1469 := ng (nl BK1469 hg); replace BK1469 := bb BK1469 hb; clear hb hbox hg) | ((with_reducible refine gate_dst (N := 6) rfl ?_); refine be 6 3 #[.int .i64 0] ?_; intro gb1471 hg w79 hbox hb; have BK1471 := m0 hbox; have GW1471 := m0 (bg (n := w.heap.size) hg); have GE1471 := m0 (bg (n := w.heap.size) hg); replace HB := sb HB hb; have NB1468_1471 := nl BK1468 hg; have NB1471_1468 := ng (nl BK1468 hg); replace BK1468 := bb BK1468 hb; have NB1469_1471 := nl BK1469 hg; have NB1471_1469 := ng (nl BK1469 hg); replace BK1469 := bb BK1469 hb; have NB1470_1471 := nl BK1470 hg; have NB1471_1470 := ng (nl BK1470 hg); replace BK1470 := bb BK1470 hb; clear hb hbox hg) | ((with_reducible refine gate_dst (N := 7) rfl ?_); refine be 7 31 #[.int .i64 0] ?_; intro gb1472 hg w80 hbox hb; have BK1472 := m0 hbox; have GW1472 := m0 (bg (n := w.heap.size) hg); have GE1472 := m0 (bg (n := w.heap.size) hg); replace HB := sb HB hb; have NB1468_1472 := nl BK1468 hg; have NB1472_1468 := ng (nl BK1468 hg); replace BK1468 := bb BK1468 hb; have NB1469_1472 := nl BK1469 hg; have NB1472_1469 := ng (nl BK1469 hg); replace BK1469 := bb BK1469 hb; have NB1470_1472 := nl BK1470 hg; have NB1472_1470 := ng (nl BK1470 hg); replace BK1470 := bb BK1470 hb; have NB1471_1472 := nl BK1471 hg; have NB1472_1471 := ng (nl BK1471 hg); replace BK1471 := bb BK1471 hb; clear hb hbox hg; have hnb81 := NB1470_1468.out; have hnc81 := NB1468_1470.out; have hnb82 := NB1470_1469.out; have hnc82 := NB1469_1470.out; have hnb83 := NB1470_1471.out; have hnc83 := NB1471_1470.out; have hnb84 := NB1470_1472.out; have hnc84 := NB1472_1470.out; obtain ⟨_, _, _, _, _, _⟩ := b3 BK1470) | (go_at_call 127; (with_reducible refine (line_divisor.calls k a2_0 a2_1 t1473 _ A6.out).mono ?_); rintro e w86 ⟨rfl, hb⟩; replace BK1468 := bb BK1468 hb; replace BK1469 := bb BK1469 hb; replace BK1470 := bb BK1470 hb; replace BK1471 := bb BK1471 hb; replace BK1472 := bb BK1472 hb; replace HB := sb HB hb; (try clear hb)))
     replace BK1468 := bd BK1468; replace BK1469 := bd BK1469; replace BK1470 := bd BK1470; replace BK1471 := bd BK1471; replace BK1472 := bd BK1472; replace HB := sd HB
     refine start_ (n := 9) (S := fun w' => w'.cell? ⟨gb1468, 0, none⟩ = some (.slice A0_0 l0_0.length c0_0) ∧ w'.cell? ⟨gb1468, 1, none⟩ = some (.slice A0_1 l0_1.length c0_1) ∧ w'.cell? ⟨gb1468, 2, none⟩ = some (.int .i64 a0_2) ∧ w'.cell? ⟨gb1468, 3, none⟩ = some (.int .i64 a0_3) ∧ w'.cell? ⟨gb1469, 0, none⟩ = some (.int .i64 a1)) (ds := []) #[false, false, false, false, false, false, false, false, false] (by kernel_rfl) rfl rfl cz (fun hHeld => ?_); refine with_tabW line_CheckWorst.tab2 line_CheckWorst.bits2 (fun HT_ HW_ => ?_)
     generalize w86.drew = w87 at BK1468 BK1469 BK1470 BK1471 BK1472 HB hHeld ⊢
     refine pureZ (i := 4) (N := some 38) #[false, false, false, false, true, false, false, false, false] HT_ ?_
     refine takeZ 0 (some 34) #[true, false, false, false, true, false, false, false, false] (take_ofW HT_.out HW_.out (by kernel_rfl)) hHeld ?_
     refine takeZ 2 (some 36) #[true, false, true, false, true, false, false, false, false] (take_ofW HT_.out HW_.out (by kernel_rfl)) hHeld ?_
     refine oneZ 1 (some 35) #[true, true, true, false, true, false, false, false, false] (one_of HT_.out (by kernel_rfl)) fun K hK => ?_
     refine goes_ Tryd.func53 (by kernel_rfl) rfl #[.agg #[.slice A0_0 l0_0.length c0_0, .slice A0_1 l0_1.length c0_1, .int .i64 a0_2, .int .i64 a0_3]] (by rfl) rfl rfl mz ?_
     with_reducible refine (line_CheckCase.calls k _ _ l0_0 _ _ l0_1 a0_2 a0_3 t1474 _ ?side1 ?side2 ?side3 ?side4 A7.out).mono ?_
     (case side1 => exact cb HR0_0 HB)
     (case side2 => exact HC0_0.out)
     (case side3 => exact cb HR0_1 HB)
     (case side4 => exact HC0_1.out)
     rintro e w88 ⟨rfl, hb⟩
     refine ⟨_, rfl, ?_⟩
     replace BK1468 := bb BK1468 hb; replace BK1469 := bb BK1469 hb; replace BK1470 := bb BK1470 hb; replace BK1471 := bb BK1471 hb; replace BK1472 := bb BK1472 hb; replace HB := sb HB hb
     (try clear hb)
     refine hK.out _ _ cz (fun hHeld => ?_)
     clear hK K
     refine norm_ (a' := ?_) ?_ ?_
     rotate_left
     ·show Act.put _ (some 35) _ = _
      exact pz
     refine oneZ 3 (some 37) #[true, true, true, true, true, false, false, false, false] (one_of HT_.out (by kernel_rfl)) fun K hK => ?_
     refine goes_ Tryd.func92 (by kernel_rfl) rfl #[.int .i64 a1] (by rfl) rfl rfl mz ?_
     with_reducible refine (line_kindErr.calls a1 t1475 _ A8.out).mono ?_
     rintro e w' ⟨rfl, ⟨nd, rfl⟩⟩
     refine ⟨_, rfl, ?_⟩
     refine hK.out _ _ cz (fun hHeld => ?_)
     clear hK K
     refine norm_ (a' := ?_) ?_ ?_
     rotate_left
     ·show Act.put _ (some 37) _ = _
      exact pz
     refine oneZ 5 (some 39) #[true, true, true, true, true, true, false, false, false] (one_of HT_.out (by kernel_rfl)) fun K hK => ?_
     refine goes_ Tryd.func93 (by kernel_rfl) rfl #[.bool (t1473 == 1), .int .i64 3] (by rfl) rfl rfl mz ?_
     with_reducible refine (line_unless.calls (t1473 == 1) 3 t1476 _ A9.out).mono ?_
     rintro e w' ⟨rfl, ⟨nd, rfl⟩⟩
     refine ⟨_, rfl, ?_⟩
     refine hK.out _ _ cz (fun hHeld => ?_)
     clear hK K
     refine norm_ (a' := ?_) ?_ ?_
     rotate_left
     ·show Act.put _ (some 39) _ = _
      exact pz
     refine oneZ 6 (some 40) #[true, true, true, true, true, true, true, false, false] (one_of HT_.out (by kernel_rfl)) fun K hK => ?_
     refine Kd.R_lit_step (Kd.int .i64) _ 31 ?hg (N := 40) ?hd (xs := ([t1474, t1475, t1476] : List Int)) (inner := [.int .i64 t1474, .int .i64 t1475, .int .i64 t1476]) (ok := fun _ => True) (okp := fun _ => True) ?hr ?hp (fun _ hk => hk) trivial (Below.refl _ _) (Nat.le_refl _) (by simp) ?_; (case hd => rfl); (case hg => rfl); (case hr => first | (go_simp; done) | (go_simp; rfl)); (case hp => exact (Reps.one (show Kd.M (Kd.int .i64) _ _ _ t1474 [.int .i64 t1474] from rfl) (Reps.one (show Kd.M (Kd.int .i64) _ _ _ t1475 [.int .i64 t1475] from rfl) (Reps.one (show Kd.M (Kd.int .i64) _ _ _ t1476 [.int .i64 t1476] from rfl) (Reps.none _ _)))))
     intro v1478 w89 ho90 hb hg_ hnew_
     clear hg_ hnew_
     (first | rw [← Ny1477.out] at ho90 | (simp only [Int.reduceToNat] at ho90; rw [← Ny1477.out] at ho90))
     have HO1479 := m0 (Kd.R_lower (Kd.R_newB ho90 (g := gb1472) (o := .cells #[.int .i64 0] 31 (0, 0)) (bk BK1472.out)) (below_size bz)); replace BK1468 := bb BK1468 hb; replace BK1469 := bb BK1469 hb; replace BK1470 := bb BK1470 hb; replace BK1471 := bb BK1471 hb; replace BK1472 := bb BK1472 hb; replace HB := sb HB hb
     clear hb ho90
     obtain ⟨Ao91, co91, eo91⟩ := Kd.R_slice HO1479.out
     (first | subst eo91 | (injection eo91 with f1_ f2_ f3_; have f4_ := f1_.symm; have f5_ := f3_.symm; clear f1_ f2_ f3_; subst f4_; subst f5_))
     refine hK.out _ _ cz (fun hHeld => ?_)
     clear hK K
     refine norm_ (a' := ?_) ?_ ?_
     rotate_left
     ·show Act.put _ (some 40) _ = _
      exact pz
     refine oneZ 7 (some 41) #[true, true, true, true, true, true, true, true, false] (one_of HT_.out (by kernel_rfl)) fun K hK => ?_
     refine goes_ Tryd.func91 (by kernel_rfl) rfl #[.slice Ao91 y1477.length co91] (by rfl) rfl rfl mz ?_
     with_reducible refine (line_first.calls k _ _ y1477 t1480 _ ?side1 ?side2 A10.out).mono ?_
     (case side1 => exact bc (Kd.R_reads' HO1479.out).2.2)
     (case side2 => exact (Kd.R_reads' HO1479.out).2.1)
     rintro e w' ⟨rfl, ⟨nd, rfl⟩⟩
     refine ⟨_, rfl, ?_⟩
     refine hK.out _ _ cz (fun hHeld => ?_)
     clear hK K
     refine norm_ (a' := ?_) ?_ ?_
     rotate_left
     ·show Act.put _ (some 41) _ = _
      exact pz
     refine pureZ (i := 8) (N := some 9) #[true, true, true, true, true, true, true, true, true] HT_ ?_
     refine done_ (done_of HT_.out (by kernel_rfl)) ?_
     have hnb92 := NB1468_1469.out
     have hnc92 := NB1469_1468.out
     have hnb93 := NB1468_1471.out
     have hnc93 := NB1471_1468.out
     have hnb94 := NB1468_1472.out
     have hnc94 := NB1472_1468.out
     obtain ⟨_, _, _, _, _, _, _, _⟩ := b4 BK1468
     try go_wp2_with (first | ((with_reducible refine gate_callee (f := 121) rfl ?_); refine gl (some 51) Tryd.func121 #[.agg #[.slice A0_1 l0_1.length c0_1], .int .i64 (l0_0.length : Int)] ?_; (with_reducible refine (line_cases.calls k _ _ l0_1 (l0_0.length : Int) t1481 t1482 _ ?side1 ?side2 A12.out).mono ?_); (case side1 => repeat (first | exact (Kd.C_below HR0_1.out bz) | (with_reducible refine Kd.C_alloc ?_ _) | (with_reducible refine Kd.C_drewN ?_ _) | (with_reducible refine Kd.C_drew ?_))); (case side2 => exact HC0_1.out); rintro e w96 ⟨rfl, hb⟩; refine ⟨_, rfl, ?_⟩; replace HO1479 := rb HO1479 hb; replace BK1468 := bb BK1468 hb; replace BK1469 := bb BK1469 hb; replace BK1470 := bb BK1470 hb; replace BK1471 := bb BK1471 hb; replace BK1472 := bb BK1472 hb; replace HB := sb HB hb; (try clear hb); obtain ⟨_, _, _, _, _, _⟩ := b3 BK1470) | ((with_reducible refine gate_callee (f := 105) rfl ?_); refine gl (some 58) Tryd.func105 #[.int .i64 a2_2, .int .i64 0, .int .i64 (wrap64 (t1481 - 1))] ?_; (with_reducible refine (line_within.calls a2_2 0 (wrap64 (t1481 - 1)) false _ A13.out).mono ?_); rintro e w' ⟨rfl, ⟨nd, rfl⟩⟩; refine ⟨_, rfl, ?_⟩; (try (rw [drewN_self w96]; generalize hq_ : World.drewN w96 _ = w96; have n0_ : Aside0 (Kd.R (Kd.int .i64) 31 w96 w.heap.size (fun k_ => k_ ≠ gb1472) (.slice Ao91 y1477.length co91) y1477) := ⟨by rw [← hq_]; exact (by (with_reducible repeat (first | apply Kd.R_alloc | apply Kd.R_drewN | apply Kd.R_drew)); exact Kd.R_mono HO1479.out (fun _ hk => hk.2))⟩; have n1_ := gd BK1468 hq_; have n2_ := gd BK1469 hq_; have n3_ := gd BK1470 hq_; have n4_ := gd BK1471 hq_; have n5_ := gd BK1472 hq_; have n6_ := gs HB hq_; clear HO1479 BK1468 BK1469 BK1470 BK1471 BK1472 HB hq_; have HO1479 := n0_; have BK1468 := n1_; have BK1469 := n2_; have BK1470 := n3_; have BK1471 := n4_; have BK1472 := n5_; have HB := n6_; clear n0_ n1_ n2_ n3_ n4_ n5_ n6_)); have hnb98 := NB1471_1469.out; have hnc98 := NB1469_1471.out; have hnb99 := NB1471_1472.out; have hnc99 := NB1472_1471.out; obtain ⟨_, _⟩ := b1 BK1471; have hnb101 := NB1472_1469.out; have hnc101 := NB1469_1472.out; obtain ⟨_, _⟩ := b1 BK1472))
     refine bodyPostM_ret (results_11 rfl _ _ gb1471 gb1472 3 31 #[.int .i64 0] #[.int .i64 6] (0, 0) (0, 0) _ _ rfl (by (with_reducible repeat (first | refine blk_drewN ?_ _ | refine blk_drew ?_ | refine blk_alloc ?_ _)); refine blk_far ?_ NB1471_1472.out _; (with_reducible repeat (first | refine blk_drewN ?_ _ | refine blk_drew ?_ | refine blk_alloc ?_ _)); refine blk_put (cs := #[.int .i64 0]) ?_ 0 _ rfl; (with_reducible repeat (first | refine blk_drewN ?_ _ | refine blk_drew ?_ | refine blk_alloc ?_ _)); exact BK1471.out) Tryd.underlying3 rfl (by kernel_rfl) rfl (by (with_reducible repeat (first | refine blk_drewN ?_ _ | refine blk_drew ?_ | refine blk_alloc ?_ _)); refine blk_put (cs := #[.int .i64 0]) ?_ 0 _ rfl; (with_reducible repeat (first | refine blk_drewN ?_ _ | refine blk_drew ?_ | refine blk_alloc ?_ _)); refine blk_far ?_ NB1472_1471.out _; (with_reducible repeat (first | refine blk_drewN ?_ _ | refine blk_drew ?_ | refine blk_alloc ?_ _)); exact BK1472.out) Tryd.underlying31 rfl (by kernel_rfl)) rfl ?_
     exact ez
   ·rw [if_neg c11] at H
    have c11b0 := beq_eq_false_iff_ne.mpr c11
    have c11b1 := bne_iff_ne.mpr c11
    simp only [Option.some.injEq, Prod.mk.injEq] at H
    obtain ⟨rfl, rfl⟩ := H
    refine (callsIn_wide (n := 9)).1 (callsIn_of_wp_marks Tryd.func69 rfl trivial (wpIn_mono (Q := QM 9 Tryd.prog Tryd.f69 _) (wpIn_wide.2 ?_) (fun _ _ _ h => QM.le h)) rfl)
    simp only [Tryd.ntmps69, List.size_toArray, List.length_cons, List.length_nil, Nat.reduceAdd, Nat.reduceSub, Array.replicate_succ, Array.replicate_zero, List.push_toArray, List.append_toArray, List.nil_append, List.cons_append]
    try go_wp2_with (first | ((with_reducible refine gate_dst (N := 3) rfl ?_); refine be 3 28 #[.slice A0_0 l0_0.length c0_0, .slice A0_1 l0_1.length c0_1, .int .i64 a0_2, .int .i64 a0_3] ?_; intro gb1468 hg w103 hbox hb; have BK1468 := m0 hbox; have GW1468 := m0 (bg (n := w.heap.size) hg); have GE1468 := m0 (bg (n := w.heap.size) hg); replace HB := sb HB hb; clear hb hbox hg) | ((with_reducible refine gate_dst (N := 4) rfl ?_); refine be 4 3 #[.int .i64 a1] ?_; intro gb1469 hg w104 hbox hb; have BK1469 := m0 hbox; have GW1469 := m0 (bg (n := w.heap.size) hg); have GE1469 := m0 (bg (n := w.heap.size) hg); replace HB := sb HB hb; have NB1468_1469 := nl BK1468 hg; have NB1469_1468 := ng (nl BK1468 hg); replace BK1468 := bb BK1468 hb; clear hb hbox hg) | ((with_reducible refine gate_dst (N := 5) rfl ?_); refine be 5 36 #[.int .i64 a2_0, .int .i64 a2_1, .int .i64 a2_2] ?_; intro gb1470 hg w105 hbox hb; have BK1470 := m0 hbox; have GW1470 := m0 (bg (n := w.heap.size) hg); have GE1470 := m0 (bg (n := w.heap.size) hg); replace HB := sb HB hb; have NB1468_1470 := nl BK1468 hg; have NB1470_1468 := ng (nl BK1468 hg); replace BK1468 := bb BK1468 hb; have NB1469_1470 := nl BK1469 hg; have NB1470_1469 := ng (nl BK1469 hg); replace BK1469 := bb BK1469 hb; clear hb hbox hg) | ((with_reducible refine gate_dst (N := 6) rfl ?_); refine be 6 3 #[.int .i64 0] ?_; intro gb1471 hg w106 hbox hb; have BK1471 := m0 hbox; have GW1471 := m0 (bg (n := w.heap.size) hg); have GE1471 := m0 (bg (n := w.heap.size) hg); replace HB := sb HB hb; have NB1468_1471 := nl BK1468 hg; have NB1471_1468 := ng (nl BK1468 hg); replace BK1468 := bb BK1468 hb; have NB1469_1471 := nl BK1469 hg; have NB1471_1469 := ng (nl BK1469 hg); replace BK1469 := bb BK1469 hb; have NB1470_1471 := nl BK1470 hg; have NB1471_1470 := ng (nl BK1470 hg); replace BK1470 := bb BK1470 hb; clear hb hbox hg) | ((with_reducible refine gate_dst (N := 7) rfl ?_); refine be 7 31 #[.int .i64 0] ?_; intro gb1472 hg w107 hbox hb; have BK1472 := m0 hbox; have GW1472 := m0 (bg (n := w.heap.size) hg); have GE1472 := m0 (bg (n := w.heap.size) hg); replace HB := sb HB hb; have NB1468_1472 := nl BK1468 hg; have NB1472_1468 := ng (nl BK1468 hg); replace BK1468 := bb BK1468 hb; have NB1469_1472 := nl BK1469 hg; have NB1472_1469 := ng (nl BK1469 hg); replace BK1469 := bb BK1469 hb; have NB1470_1472 := nl BK1470 hg; have NB1472_1470 := ng (nl BK1470 hg); replace BK1470 := bb BK1470 hb; have NB1471_1472 := nl BK1471 hg; have NB1472_1471 := ng (nl BK1471 hg); replace BK1471 := bb BK1471 hb; clear hb hbox hg; have hnb108 := NB1470_1468.out; have hnc108 := NB1468_1470.out; have hnb109 := NB1470_1469.out; have hnc109 := NB1469_1470.out; have hnb110 := NB1470_1471.out; have hnc110 := NB1471_1470.out; have hnb111 := NB1470_1472.out; have hnc111 := NB1472_1470.out; obtain ⟨_, _, _, _, _, _⟩ := b3 BK1470) | (go_at_call 127; (with_reducible refine (line_divisor.calls k a2_0 a2_1 t1473 _ A6.out).mono ?_); rintro e w113 ⟨rfl, hb⟩; replace BK1468 := bb BK1468 hb; replace BK1469 := bb BK1469 hb; replace BK1470 := bb BK1470 hb; replace BK1471 := bb BK1471 hb; replace BK1472 := bb BK1472 hb; replace HB := sb HB hb; (try clear hb)))
    replace BK1468 := bd BK1468; replace BK1469 := bd BK1469; replace BK1470 := bd BK1470; replace BK1471 := bd BK1471; replace BK1472 := bd BK1472; replace HB := sd HB
    refine start_ (n := 9) (S := fun w' => w'.cell? ⟨gb1468, 0, none⟩ = some (.slice A0_0 l0_0.length c0_0) ∧ w'.cell? ⟨gb1468, 1, none⟩ = some (.slice A0_1 l0_1.length c0_1) ∧ w'.cell? ⟨gb1468, 2, none⟩ = some (.int .i64 a0_2) ∧ w'.cell? ⟨gb1468, 3, none⟩ = some (.int .i64 a0_3) ∧ w'.cell? ⟨gb1469, 0, none⟩ = some (.int .i64 a1)) (ds := []) #[false, false, false, false, false, false, false, false, false] (by kernel_rfl) rfl rfl cz (fun hHeld => ?_); refine with_tabW line_CheckWorst.tab2 line_CheckWorst.bits2 (fun HT_ HW_ => ?_)
    generalize w113.drew = w114 at BK1468 BK1469 BK1470 BK1471 BK1472 HB hHeld ⊢
    refine pureZ (i := 4) (N := some 38) #[false, false, false, false, true, false, false, false, false] HT_ ?_
    refine takeZ 0 (some 34) #[true, false, false, false, true, false, false, false, false] (take_ofW HT_.out HW_.out (by kernel_rfl)) hHeld ?_
    refine takeZ 2 (some 36) #[true, false, true, false, true, false, false, false, false] (take_ofW HT_.out HW_.out (by kernel_rfl)) hHeld ?_
    refine oneZ 1 (some 35) #[true, true, true, false, true, false, false, false, false] (one_of HT_.out (by kernel_rfl)) fun K hK => ?_
    refine goes_ Tryd.func53 (by kernel_rfl) rfl #[.agg #[.slice A0_0 l0_0.length c0_0, .slice A0_1 l0_1.length c0_1, .int .i64 a0_2, .int .i64 a0_3]] (by rfl) rfl rfl mz ?_
    with_reducible refine (line_CheckCase.calls k _ _ l0_0 _ _ l0_1 a0_2 a0_3 t1474 _ ?side1 ?side2 ?side3 ?side4 A7.out).mono ?_
    (case side1 => exact cb HR0_0 HB)
    (case side2 => exact HC0_0.out)
    (case side3 => exact cb HR0_1 HB)
    (case side4 => exact HC0_1.out)
    rintro e w115 ⟨rfl, hb⟩
    refine ⟨_, rfl, ?_⟩
    replace BK1468 := bb BK1468 hb; replace BK1469 := bb BK1469 hb; replace BK1470 := bb BK1470 hb; replace BK1471 := bb BK1471 hb; replace BK1472 := bb BK1472 hb; replace HB := sb HB hb
    (try clear hb)
    refine hK.out _ _ cz (fun hHeld => ?_)
    clear hK K
    refine norm_ (a' := ?_) ?_ ?_
    rotate_left
    ·show Act.put _ (some 35) _ = _
     exact pz
    refine oneZ 3 (some 37) #[true, true, true, true, true, false, false, false, false] (one_of HT_.out (by kernel_rfl)) fun K hK => ?_
    refine goes_ Tryd.func92 (by kernel_rfl) rfl #[.int .i64 a1] (by rfl) rfl rfl mz ?_
    with_reducible refine (line_kindErr.calls a1 t1475 _ A8.out).mono ?_
    rintro e w' ⟨rfl, ⟨nd, rfl⟩⟩
    refine ⟨_, rfl, ?_⟩
    refine hK.out _ _ cz (fun hHeld => ?_)
    clear hK K
    refine norm_ (a' := ?_) ?_ ?_
    rotate_left
    ·show Act.put _ (some 37) _ = _
     exact pz
    refine oneZ 5 (some 39) #[true, true, true, true, true, true, false, false, false] (one_of HT_.out (by kernel_rfl)) fun K hK => ?_
    refine goes_ Tryd.func93 (by kernel_rfl) rfl #[.bool (t1473 == 1), .int .i64 3] (by rfl) rfl rfl mz ?_
    with_reducible refine (line_unless.calls (t1473 == 1) 3 t1476 _ A9.out).mono ?_
    rintro e w' ⟨rfl, ⟨nd, rfl⟩⟩
    refine ⟨_, rfl, ?_⟩
    refine hK.out _ _ cz (fun hHeld => ?_)
    clear hK K
    refine norm_ (a' := ?_) ?_ ?_
    rotate_left
    ·show Act.put _ (some 39) _ = _
     exact pz
    refine oneZ 6 (some 40) #[true, true, true, true, true, true, true, false, false] (one_of HT_.out (by kernel_rfl)) fun K hK => ?_
    refine Kd.R_lit_step (Kd.int .i64) _ 31 ?hg (N := 40) ?hd (xs := ([t1474, t1475, t1476] : List Int)) (inner := [.int .i64 t1474, .int .i64 t1475, .int .i64 t1476]) (ok := fun _ => True) (okp := fun _ => True) ?hr ?hp (fun _ hk => hk) trivial (Below.refl _ _) (Nat.le_refl _) (by simp) ?_; (case hd => rfl); (case hg => rfl); (case hr => first | (go_simp; done) | (go_simp; rfl)); (case hp => exact (Reps.one (show Kd.M (Kd.int .i64) _ _ _ t1474 [.int .i64 t1474] from rfl) (Reps.one (show Kd.M (Kd.int .i64) _ _ _ t1475 [.int .i64 t1475] from rfl) (Reps.one (show Kd.M (Kd.int .i64) _ _ _ t1476 [.int .i64 t1476] from rfl) (Reps.none _ _)))))
    intro v1478 w116 ho117 hb hg_ hnew_
    clear hg_ hnew_
    (first | rw [← Ny1477.out] at ho117 | (simp only [Int.reduceToNat] at ho117; rw [← Ny1477.out] at ho117))
    have HO1479 := m0 (Kd.R_lower (Kd.R_newB ho117 (g := gb1472) (o := .cells #[.int .i64 0] 31 (0, 0)) (bk BK1472.out)) (below_size bz)); replace BK1468 := bb BK1468 hb; replace BK1469 := bb BK1469 hb; replace BK1470 := bb BK1470 hb; replace BK1471 := bb BK1471 hb; replace BK1472 := bb BK1472 hb; replace HB := sb HB hb
    clear hb ho117
    obtain ⟨Ao118, co118, eo118⟩ := Kd.R_slice HO1479.out
    (first | subst eo118 | (injection eo118 with f1_ f2_ f3_; have f4_ := f1_.symm; have f5_ := f3_.symm; clear f1_ f2_ f3_; subst f4_; subst f5_))
    refine hK.out _ _ cz (fun hHeld => ?_)
    clear hK K
    refine norm_ (a' := ?_) ?_ ?_
    rotate_left
    ·show Act.put _ (some 40) _ = _
     exact pz
    refine oneZ 7 (some 41) #[true, true, true, true, true, true, true, true, false] (one_of HT_.out (by kernel_rfl)) fun K hK => ?_
    refine goes_ Tryd.func91 (by kernel_rfl) rfl #[.slice Ao118 y1477.length co118] (by rfl) rfl rfl mz ?_
    with_reducible refine (line_first.calls k _ _ y1477 t1480 _ ?side1 ?side2 A10.out).mono ?_
    (case side1 => exact bc (Kd.R_reads' HO1479.out).2.2)
    (case side2 => exact (Kd.R_reads' HO1479.out).2.1)
    rintro e w' ⟨rfl, ⟨nd, rfl⟩⟩
    refine ⟨_, rfl, ?_⟩
    refine hK.out _ _ cz (fun hHeld => ?_)
    clear hK K
    refine norm_ (a' := ?_) ?_ ?_
    rotate_left
    ·show Act.put _ (some 41) _ = _
     exact pz
    refine pureZ (i := 8) (N := some 9) #[true, true, true, true, true, true, true, true, true] HT_ ?_
    refine done_ (done_of HT_.out (by kernel_rfl)) ?_
    have hnb119 := NB1471_1468.out
    have hnc119 := NB1468_1471.out
    have hnb120 := NB1471_1469.out
    have hnc120 := NB1469_1471.out
    have hnb121 := NB1471_1472.out
    have hnc121 := NB1472_1471.out
    obtain ⟨_, _⟩ := b1 BK1471
    have hnb123 := NB1472_1468.out
    have hnc123 := NB1468_1472.out
    have hnb124 := NB1472_1469.out
    have hnc124 := NB1469_1472.out
    obtain ⟨_, _⟩ := b1 BK1472
    try go_wp2
    refine bodyPostM_ret (results_11 rfl _ _ gb1471 gb1472 3 31 #[.int .i64 0] #[.int .i64 t1480] (0, 0) (0, 0) _ _ rfl (by (with_reducible repeat (first | refine blk_drewN ?_ _ | refine blk_drew ?_ | refine blk_alloc ?_ _)); refine blk_far ?_ NB1471_1472.out _; (with_reducible repeat (first | refine blk_drewN ?_ _ | refine blk_drew ?_ | refine blk_alloc ?_ _)); refine blk_put (cs := #[.int .i64 0]) ?_ 0 _ rfl; (with_reducible repeat (first | refine blk_drewN ?_ _ | refine blk_drew ?_ | refine blk_alloc ?_ _)); exact BK1471.out) Tryd.underlying3 rfl (by kernel_rfl) rfl (by (with_reducible repeat (first | refine blk_drewN ?_ _ | refine blk_drew ?_ | refine blk_alloc ?_ _)); refine blk_put (cs := #[.int .i64 0]) ?_ 0 _ rfl; (with_reducible repeat (first | refine blk_drewN ?_ _ | refine blk_drew ?_ | refine blk_alloc ?_ _)); refine blk_far ?_ NB1472_1471.out _; (with_reducible repeat (first | refine blk_drewN ?_ _ | refine blk_drew ?_ | refine blk_alloc ?_ _)); exact BK1472.out) Tryd.underlying31 rfl (by kernel_rfl)) rfl ?_
    exact ez
  ·rw [if_neg c5] at H
   have c5b0 := decide_eq_false c5
   clear c5
   replace H := ob H
   obtain ⟨t1489, A1260, H⟩ := H
   (try dsimp only at H)
   have A126 := m0 A1260
   clear A1260
   replace H := ob H
   obtain ⟨t1490, A1270, H⟩ := H
   (try dsimp only at H)
   have A127 := m0 A1270
   clear A1270
   replace H := ob H
   obtain ⟨t1491, A1280, H⟩ := H
   (try dsimp only at H)
   have A128 := m0 A1280
   clear A1280
   obtain ⟨y1492, hy1492⟩ : ∃ y_ : List Int, y_ = (([t1489, t1490, t1491] : List Int)) := ⟨_, rfl⟩
   replace H : ((line_first.f k y1492).bind fun t1495 => (if t1495 = 0 then ((line_cases.f k l0_1 (l0_0.length : Int)).bind fun bt1496 => ((line_within.f a2_2 0 (wrap64 (bt1496.1 - 1))).bind fun t1498 => (if t1498 = true then ((line_noisy.f k l0_0 l0_1 a2_2).bind fun t1499 => ((line_miss.f k t1499 a1 a0_2 a0_3).bind fun bt1502 => (if (!(bt1502.1 == a2_0) || (!(bt1502.2 == a2_1))) = true then (some (0, 13)) else (line_CheckWorst_rest.f k l0_0 l0_1 a0_2 a0_3 a1 a2_0 a2_1 a2_2)))) else (some (0, 6))))) else (some (0, t1495)))) = some (r1, r2) := by first | (rw [hy1492]; with_reducible exact H) | (have H2_ := (Option.bind_some _ _).symm.trans H; rw [hy1492]; with_reducible exact H2_) | (have H2_ := (Option.bind_some _ _).symm.trans H; with_reducible exact H2_) | with_reducible exact H | (rw [hy1492]; exact H) | exact H
   have Ny1492 := m0 hy1492
   clear hy1492
   replace H := ob H
   obtain ⟨t1495, A1290, H⟩ := H
   (try dsimp only at H)
   have A129 := m0 A1290
   clear A1290
   by_cases c130 : t1495 = 0
   ·exact absurd c130 (first3 A128.out A129.out Ny1492.out)
   ·rw [if_neg c130] at H
    have c130b0 := beq_eq_false_iff_ne.mpr c130
    have c130b1 := bne_iff_ne.mpr c130
    simp only [Option.some.injEq, Prod.mk.injEq] at H
    obtain ⟨rfl, rfl⟩ := H
    refine (callsIn_wide (n := 9)).1 (callsIn_of_wp_marks Tryd.func69 rfl trivial (wpIn_mono (Q := QM 9 Tryd.prog Tryd.f69 _) (wpIn_wide.2 ?_) (fun _ _ _ h => QM.le h)) rfl)
    simp only [Tryd.ntmps69, List.size_toArray, List.length_cons, List.length_nil, Nat.reduceAdd, Nat.reduceSub, Array.replicate_succ, Array.replicate_zero, List.push_toArray, List.append_toArray, List.nil_append, List.cons_append]
    try go_wp2_with (first | ((with_reducible refine gate_dst (N := 3) rfl ?_); refine be 3 28 #[.slice A0_0 l0_0.length c0_0, .slice A0_1 l0_1.length c0_1, .int .i64 a0_2, .int .i64 a0_3] ?_; intro gb1468 hg w219 hbox hb; have BK1468 := m0 hbox; have GW1468 := m0 (bg (n := w.heap.size) hg); have GE1468 := m0 (bg (n := w.heap.size) hg); replace HB := sb HB hb; clear hb hbox hg) | ((with_reducible refine gate_dst (N := 4) rfl ?_); refine be 4 3 #[.int .i64 a1] ?_; intro gb1469 hg w220 hbox hb; have BK1469 := m0 hbox; have GW1469 := m0 (bg (n := w.heap.size) hg); have GE1469 := m0 (bg (n := w.heap.size) hg); replace HB := sb HB hb; have NB1468_1469 := nl BK1468 hg; have NB1469_1468 := ng (nl BK1468 hg); replace BK1468 := bb BK1468 hb; clear hb hbox hg) | ((with_reducible refine gate_dst (N := 5) rfl ?_); refine be 5 36 #[.int .i64 a2_0, .int .i64 a2_1, .int .i64 a2_2] ?_; intro gb1470 hg w221 hbox hb; have BK1470 := m0 hbox; have GW1470 := m0 (bg (n := w.heap.size) hg); have GE1470 := m0 (bg (n := w.heap.size) hg); replace HB := sb HB hb; have NB1468_1470 := nl BK1468 hg; have NB1470_1468 := ng (nl BK1468 hg); replace BK1468 := bb BK1468 hb; have NB1469_1470 := nl BK1469 hg; have NB1470_1469 := ng (nl BK1469 hg); replace BK1469 := bb BK1469 hb; clear hb hbox hg) | ((with_reducible refine gate_dst (N := 6) rfl ?_); refine be 6 3 #[.int .i64 0] ?_; intro gb1471 hg w222 hbox hb; have BK1471 := m0 hbox; have GW1471 := m0 (bg (n := w.heap.size) hg); have GE1471 := m0 (bg (n := w.heap.size) hg); replace HB := sb HB hb; have NB1468_1471 := nl BK1468 hg; have NB1471_1468 := ng (nl BK1468 hg); replace BK1468 := bb BK1468 hb; have NB1469_1471 := nl BK1469 hg; have NB1471_1469 := ng (nl BK1469 hg); replace BK1469 := bb BK1469 hb; have NB1470_1471 := nl BK1470 hg; have NB1471_1470 := ng (nl BK1470 hg); replace BK1470 := bb BK1470 hb; clear hb hbox hg) | ((with_reducible refine gate_dst (N := 7) rfl ?_); refine be 7 31 #[.int .i64 0] ?_; intro gb1472 hg w223 hbox hb; have BK1472 := m0 hbox; have GW1472 := m0 (bg (n := w.heap.size) hg); have GE1472 := m0 (bg (n := w.heap.size) hg); replace HB := sb HB hb; have NB1468_1472 := nl BK1468 hg; have NB1472_1468 := ng (nl BK1468 hg); replace BK1468 := bb BK1468 hb; have NB1469_1472 := nl BK1469 hg; have NB1472_1469 := ng (nl BK1469 hg); replace BK1469 := bb BK1469 hb; have NB1470_1472 := nl BK1470 hg; have NB1472_1470 := ng (nl BK1470 hg); replace BK1470 := bb BK1470 hb; have NB1471_1472 := nl BK1471 hg; have NB1472_1471 := ng (nl BK1471 hg); replace BK1471 := bb BK1471 hb; clear hb hbox hg; have hnb224 := NB1470_1468.out; have hnc224 := NB1468_1470.out; have hnb225 := NB1470_1469.out; have hnc225 := NB1469_1470.out; have hnb226 := NB1470_1471.out; have hnc226 := NB1471_1470.out; have hnb227 := NB1470_1472.out; have hnc227 := NB1472_1470.out; obtain ⟨_, _, _, _, _, _⟩ := b3 BK1470))
    replace BK1468 := bd BK1468; replace BK1469 := bd BK1469; replace BK1470 := bd BK1470; replace BK1471 := bd BK1471; replace BK1472 := bd BK1472; replace HB := sd HB
    refine start_ (n := 9) (S := fun w' => w'.cell? ⟨gb1468, 0, none⟩ = some (.slice A0_0 l0_0.length c0_0) ∧ w'.cell? ⟨gb1468, 1, none⟩ = some (.slice A0_1 l0_1.length c0_1) ∧ w'.cell? ⟨gb1468, 2, none⟩ = some (.int .i64 a0_2) ∧ w'.cell? ⟨gb1468, 3, none⟩ = some (.int .i64 a0_3) ∧ w'.cell? ⟨gb1469, 0, none⟩ = some (.int .i64 a1)) (ds := []) #[false, false, false, false, false, false, false, false, false] (by kernel_rfl) rfl rfl cz (fun hHeld => ?_); refine with_tabW line_CheckWorst.tab2 line_CheckWorst.bits2 (fun HT_ HW_ => ?_)
    generalize w223.drew = w229 at BK1468 BK1469 BK1470 BK1471 BK1472 HB hHeld ⊢
    refine pureZ (i := 4) (N := some 38) #[false, false, false, false, true, false, false, false, false] HT_ ?_
    refine takeZ 0 (some 34) #[true, false, false, false, true, false, false, false, false] (take_ofW HT_.out HW_.out (by kernel_rfl)) hHeld ?_
    refine takeZ 2 (some 36) #[true, false, true, false, true, false, false, false, false] (take_ofW HT_.out HW_.out (by kernel_rfl)) hHeld ?_
    refine oneZ 1 (some 35) #[true, true, true, false, true, false, false, false, false] (one_of HT_.out (by kernel_rfl)) fun K hK => ?_
    refine goes_ Tryd.func53 (by kernel_rfl) rfl #[.agg #[.slice A0_0 l0_0.length c0_0, .slice A0_1 l0_1.length c0_1, .int .i64 a0_2, .int .i64 a0_3]] (by rfl) rfl rfl mz ?_
    with_reducible refine (line_CheckCase.calls k _ _ l0_0 _ _ l0_1 a0_2 a0_3 t1489 _ ?side1 ?side2 ?side3 ?side4 A126.out).mono ?_
    (case side1 => exact cb HR0_0 HB)
    (case side2 => exact HC0_0.out)
    (case side3 => exact cb HR0_1 HB)
    (case side4 => exact HC0_1.out)
    rintro e w230 ⟨rfl, hb⟩
    refine ⟨_, rfl, ?_⟩
    replace BK1468 := bb BK1468 hb; replace BK1469 := bb BK1469 hb; replace BK1470 := bb BK1470 hb; replace BK1471 := bb BK1471 hb; replace BK1472 := bb BK1472 hb; replace HB := sb HB hb
    (try clear hb)
    refine hK.out _ _ cz (fun hHeld => ?_)
    clear hK K
    refine norm_ (a' := ?_) ?_ ?_
    rotate_left
    ·show Act.put _ (some 35) _ = _
     exact pz
    refine oneZ 3 (some 37) #[true, true, true, true, true, false, false, false, false] (one_of HT_.out (by kernel_rfl)) fun K hK => ?_
    refine goes_ Tryd.func92 (by kernel_rfl) rfl #[.int .i64 a1] (by rfl) rfl rfl mz ?_
    with_reducible refine (line_kindErr.calls a1 t1490 _ A127.out).mono ?_
    rintro e w' ⟨rfl, ⟨nd, rfl⟩⟩
    refine ⟨_, rfl, ?_⟩
    refine hK.out _ _ cz (fun hHeld => ?_)
    clear hK K
    refine norm_ (a' := ?_) ?_ ?_
    rotate_left
    ·show Act.put _ (some 37) _ = _
     exact pz
    refine oneZ 5 (some 39) #[true, true, true, true, true, true, false, false, false] (one_of HT_.out (by kernel_rfl)) fun K hK => ?_
    refine goes_ Tryd.func93 (by kernel_rfl) rfl #[.bool false, .int .i64 3] (by rfl) rfl rfl mz ?_
    with_reducible refine (line_unless.calls false 3 t1491 _ A128.out).mono ?_
    rintro e w' ⟨rfl, ⟨nd, rfl⟩⟩
    refine ⟨_, rfl, ?_⟩
    refine hK.out _ _ cz (fun hHeld => ?_)
    clear hK K
    refine norm_ (a' := ?_) ?_ ?_
    rotate_left
    ·show Act.put _ (some 39) _ = _
     exact pz
    refine oneZ 6 (some 40) #[true, true, true, true, true, true, true, false, false] (one_of HT_.out (by kernel_rfl)) fun K hK => ?_
    refine Kd.R_lit_step (Kd.int .i64) _ 31 ?hg (N := 40) ?hd (xs := ([t1489, t1490, t1491] : List Int)) (inner := [.int .i64 t1489, .int .i64 t1490, .int .i64 t1491]) (ok := fun _ => True) (okp := fun _ => True) ?hr ?hp (fun _ hk => hk) trivial (Below.refl _ _) (Nat.le_refl _) (by simp) ?_; (case hd => rfl); (case hg => rfl); (case hr => first | (go_simp; done) | (go_simp; rfl)); (case hp => exact (Reps.one (show Kd.M (Kd.int .i64) _ _ _ t1489 [.int .i64 t1489] from rfl) (Reps.one (show Kd.M (Kd.int .i64) _ _ _ t1490 [.int .i64 t1490] from rfl) (Reps.one (show Kd.M (Kd.int .i64) _ _ _ t1491 [.int .i64 t1491] from rfl) (Reps.none _ _)))))
    intro v1493 w231 ho232 hb hg_ hnew_
    clear hg_ hnew_
    (first | rw [← Ny1492.out] at ho232 | (simp only [Int.reduceToNat] at ho232; rw [← Ny1492.out] at ho232))
    have HO1494 := m0 (Kd.R_lower (Kd.R_newB ho232 (g := gb1472) (o := .cells #[.int .i64 0] 31 (0, 0)) (bk BK1472.out)) (below_size bz)); replace BK1468 := bb BK1468 hb; replace BK1469 := bb BK1469 hb; replace BK1470 := bb BK1470 hb; replace BK1471 := bb BK1471 hb; replace BK1472 := bb BK1472 hb; replace HB := sb HB hb
    clear hb ho232
    obtain ⟨Ao233, co233, eo233⟩ := Kd.R_slice HO1494.out
    (first | subst eo233 | (injection eo233 with f1_ f2_ f3_; have f4_ := f1_.symm; have f5_ := f3_.symm; clear f1_ f2_ f3_; subst f4_; subst f5_))
    refine hK.out _ _ cz (fun hHeld => ?_)
    clear hK K
    refine norm_ (a' := ?_) ?_ ?_
    rotate_left
    ·show Act.put _ (some 40) _ = _
     exact pz
    refine oneZ 7 (some 41) #[true, true, true, true, true, true, true, true, false] (one_of HT_.out (by kernel_rfl)) fun K hK => ?_
    refine goes_ Tryd.func91 (by kernel_rfl) rfl #[.slice Ao233 y1492.length co233] (by rfl) rfl rfl mz ?_
    with_reducible refine (line_first.calls k _ _ y1492 t1495 _ ?side1 ?side2 A129.out).mono ?_
    (case side1 => exact bc (Kd.R_reads' HO1494.out).2.2)
    (case side2 => exact (Kd.R_reads' HO1494.out).2.1)
    rintro e w' ⟨rfl, ⟨nd, rfl⟩⟩
    refine ⟨_, rfl, ?_⟩
    refine hK.out _ _ cz (fun hHeld => ?_)
    clear hK K
    refine norm_ (a' := ?_) ?_ ?_
    rotate_left
    ·show Act.put _ (some 41) _ = _
     exact pz
    refine pureZ (i := 8) (N := some 9) #[true, true, true, true, true, true, true, true, true] HT_ ?_
    refine done_ (done_of HT_.out (by kernel_rfl)) ?_
    have hnb234 := NB1471_1468.out
    have hnc234 := NB1468_1471.out
    have hnb235 := NB1471_1469.out
    have hnc235 := NB1469_1471.out
    have hnb236 := NB1471_1472.out
    have hnc236 := NB1472_1471.out
    obtain ⟨_, _⟩ := b1 BK1471
    have hnb238 := NB1472_1468.out
    have hnc238 := NB1468_1472.out
    have hnb239 := NB1472_1469.out
    have hnc239 := NB1469_1472.out
    obtain ⟨_, _⟩ := b1 BK1472
    try go_wp2
    refine bodyPostM_ret (results_11 rfl _ _ gb1471 gb1472 3 31 #[.int .i64 0] #[.int .i64 t1495] (0, 0) (0, 0) _ _ rfl (by (with_reducible repeat (first | refine blk_drewN ?_ _ | refine blk_drew ?_ | refine blk_alloc ?_ _)); refine blk_far ?_ NB1471_1472.out _; (with_reducible repeat (first | refine blk_drewN ?_ _ | refine blk_drew ?_ | refine blk_alloc ?_ _)); refine blk_put (cs := #[.int .i64 0]) ?_ 0 _ rfl; (with_reducible repeat (first | refine blk_drewN ?_ _ | refine blk_drew ?_ | refine blk_alloc ?_ _)); exact BK1471.out) Tryd.underlying3 rfl (by kernel_rfl) rfl (by (with_reducible repeat (first | refine blk_drewN ?_ _ | refine blk_drew ?_ | refine blk_alloc ?_ _)); refine blk_put (cs := #[.int .i64 0]) ?_ 0 _ rfl; (with_reducible repeat (first | refine blk_drewN ?_ _ | refine blk_drew ?_ | refine blk_alloc ?_ _)); refine blk_far ?_ NB1472_1471.out _; (with_reducible repeat (first | refine blk_drewN ?_ _ | refine blk_drew ?_ | refine blk_alloc ?_ _)); exact BK1472.out) Tryd.underlying31 rfl (by kernel_rfl)) rfl ?_
    exact ez
 ·rw [if_neg c4] at H
  have c4b0 := decide_eq_false c4
  clear c4
  replace H := ob H
  obtain ⟨t1504, A2410, H⟩ := H
  (try dsimp only at H)
  have A241 := m0 A2410
  clear A2410
  replace H := ob H
  obtain ⟨t1505, A2420, H⟩ := H
  (try dsimp only at H)
  have A242 := m0 A2420
  clear A2420
  replace H := ob H
  obtain ⟨t1506, A2430, H⟩ := H
  (try dsimp only at H)
  have A243 := m0 A2430
  clear A2430
  obtain ⟨y1507, hy1507⟩ : ∃ y_ : List Int, y_ = (([t1504, t1505, t1506] : List Int)) := ⟨_, rfl⟩
  replace H : ((line_first.f k y1507).bind fun t1510 => (if t1510 = 0 then ((line_cases.f k l0_1 (l0_0.length : Int)).bind fun bt1511 => ((line_within.f a2_2 0 (wrap64 (bt1511.1 - 1))).bind fun t1513 => (if t1513 = true then ((line_noisy.f k l0_0 l0_1 a2_2).bind fun t1514 => ((line_miss.f k t1514 a1 a0_2 a0_3).bind fun bt1517 => (if (!(bt1517.1 == a2_0) || (!(bt1517.2 == a2_1))) = true then (some (0, 13)) else (line_CheckWorst_rest.f k l0_0 l0_1 a0_2 a0_3 a1 a2_0 a2_1 a2_2)))) else (some (0, 6))))) else (some (0, t1510)))) = some (r1, r2) := by first | (rw [hy1507]; with_reducible exact H) | (have H2_ := (Option.bind_some _ _).symm.trans H; rw [hy1507]; with_reducible exact H2_) | (have H2_ := (Option.bind_some _ _).symm.trans H; with_reducible exact H2_) | with_reducible exact H | (rw [hy1507]; exact H) | exact H
  have Ny1507 := m0 hy1507
  clear hy1507
  replace H := ob H
  obtain ⟨t1510, A2440, H⟩ := H
  (try dsimp only at H)
  have A244 := m0 A2440
  clear A2440
  by_cases c245 : t1510 = 0
  ·exact absurd c245 (first3 A243.out A244.out Ny1507.out)
  ·rw [if_neg c245] at H
   have c245b0 := beq_eq_false_iff_ne.mpr c245
   have c245b1 := bne_iff_ne.mpr c245
   simp only [Option.some.injEq, Prod.mk.injEq] at H
   obtain ⟨rfl, rfl⟩ := H
   refine (callsIn_wide (n := 9)).1 (callsIn_of_wp_marks Tryd.func69 rfl trivial (wpIn_mono (Q := QM 9 Tryd.prog Tryd.f69 _) (wpIn_wide.2 ?_) (fun _ _ _ h => QM.le h)) rfl)
   simp only [Tryd.ntmps69, List.size_toArray, List.length_cons, List.length_nil, Nat.reduceAdd, Nat.reduceSub, Array.replicate_succ, Array.replicate_zero, List.push_toArray, List.append_toArray, List.nil_append, List.cons_append]
   try go_wp2_with (first | ((with_reducible refine gate_dst (N := 3) rfl ?_); refine be 3 28 #[.slice A0_0 l0_0.length c0_0, .slice A0_1 l0_1.length c0_1, .int .i64 a0_2, .int .i64 a0_3] ?_; intro gb1468 hg w334 hbox hb; have BK1468 := m0 hbox; have GW1468 := m0 (bg (n := w.heap.size) hg); have GE1468 := m0 (bg (n := w.heap.size) hg); replace HB := sb HB hb; clear hb hbox hg) | ((with_reducible refine gate_dst (N := 4) rfl ?_); refine be 4 3 #[.int .i64 a1] ?_; intro gb1469 hg w335 hbox hb; have BK1469 := m0 hbox; have GW1469 := m0 (bg (n := w.heap.size) hg); have GE1469 := m0 (bg (n := w.heap.size) hg); replace HB := sb HB hb; have NB1468_1469 := nl BK1468 hg; have NB1469_1468 := ng (nl BK1468 hg); replace BK1468 := bb BK1468 hb; clear hb hbox hg) | ((with_reducible refine gate_dst (N := 5) rfl ?_); refine be 5 36 #[.int .i64 a2_0, .int .i64 a2_1, .int .i64 a2_2] ?_; intro gb1470 hg w336 hbox hb; have BK1470 := m0 hbox; have GW1470 := m0 (bg (n := w.heap.size) hg); have GE1470 := m0 (bg (n := w.heap.size) hg); replace HB := sb HB hb; have NB1468_1470 := nl BK1468 hg; have NB1470_1468 := ng (nl BK1468 hg); replace BK1468 := bb BK1468 hb; have NB1469_1470 := nl BK1469 hg; have NB1470_1469 := ng (nl BK1469 hg); replace BK1469 := bb BK1469 hb; clear hb hbox hg) | ((with_reducible refine gate_dst (N := 6) rfl ?_); refine be 6 3 #[.int .i64 0] ?_; intro gb1471 hg w337 hbox hb; have BK1471 := m0 hbox; have GW1471 := m0 (bg (n := w.heap.size) hg); have GE1471 := m0 (bg (n := w.heap.size) hg); replace HB := sb HB hb; have NB1468_1471 := nl BK1468 hg; have NB1471_1468 := ng (nl BK1468 hg); replace BK1468 := bb BK1468 hb; have NB1469_1471 := nl BK1469 hg; have NB1471_1469 := ng (nl BK1469 hg); replace BK1469 := bb BK1469 hb; have NB1470_1471 := nl BK1470 hg; have NB1471_1470 := ng (nl BK1470 hg); replace BK1470 := bb BK1470 hb; clear hb hbox hg) | ((with_reducible refine gate_dst (N := 7) rfl ?_); refine be 7 31 #[.int .i64 0] ?_; intro gb1472 hg w338 hbox hb; have BK1472 := m0 hbox; have GW1472 := m0 (bg (n := w.heap.size) hg); have GE1472 := m0 (bg (n := w.heap.size) hg); replace HB := sb HB hb; have NB1468_1472 := nl BK1468 hg; have NB1472_1468 := ng (nl BK1468 hg); replace BK1468 := bb BK1468 hb; have NB1469_1472 := nl BK1469 hg; have NB1472_1469 := ng (nl BK1469 hg); replace BK1469 := bb BK1469 hb; have NB1470_1472 := nl BK1470 hg; have NB1472_1470 := ng (nl BK1470 hg); replace BK1470 := bb BK1470 hb; have NB1471_1472 := nl BK1471 hg; have NB1472_1471 := ng (nl BK1471 hg); replace BK1471 := bb BK1471 hb; clear hb hbox hg; have hnb339 := NB1470_1468.out; have hnc339 := NB1468_1470.out; have hnb340 := NB1470_1469.out; have hnc340 := NB1469_1470.out; have hnb341 := NB1470_1471.out; have hnc341 := NB1471_1470.out; have hnb342 := NB1470_1472.out; have hnc342 := NB1472_1470.out; obtain ⟨_, _, _, _, _, _⟩ := b3 BK1470))
   replace BK1468 := bd BK1468; replace BK1469 := bd BK1469; replace BK1470 := bd BK1470; replace BK1471 := bd BK1471; replace BK1472 := bd BK1472; replace HB := sd HB
   refine start_ (n := 9) (S := fun w' => w'.cell? ⟨gb1468, 0, none⟩ = some (.slice A0_0 l0_0.length c0_0) ∧ w'.cell? ⟨gb1468, 1, none⟩ = some (.slice A0_1 l0_1.length c0_1) ∧ w'.cell? ⟨gb1468, 2, none⟩ = some (.int .i64 a0_2) ∧ w'.cell? ⟨gb1468, 3, none⟩ = some (.int .i64 a0_3) ∧ w'.cell? ⟨gb1469, 0, none⟩ = some (.int .i64 a1)) (ds := []) #[false, false, false, false, false, false, false, false, false] (by kernel_rfl) rfl rfl cz (fun hHeld => ?_); refine with_tabW line_CheckWorst.tab2 line_CheckWorst.bits2 (fun HT_ HW_ => ?_)
   generalize w338.drew = w344 at BK1468 BK1469 BK1470 BK1471 BK1472 HB hHeld ⊢
   refine pureZ (i := 4) (N := some 38) #[false, false, false, false, true, false, false, false, false] HT_ ?_
   refine takeZ 0 (some 34) #[true, false, false, false, true, false, false, false, false] (take_ofW HT_.out HW_.out (by kernel_rfl)) hHeld ?_
   refine takeZ 2 (some 36) #[true, false, true, false, true, false, false, false, false] (take_ofW HT_.out HW_.out (by kernel_rfl)) hHeld ?_
   refine oneZ 1 (some 35) #[true, true, true, false, true, false, false, false, false] (one_of HT_.out (by kernel_rfl)) fun K hK => ?_
   refine goes_ Tryd.func53 (by kernel_rfl) rfl #[.agg #[.slice A0_0 l0_0.length c0_0, .slice A0_1 l0_1.length c0_1, .int .i64 a0_2, .int .i64 a0_3]] (by rfl) rfl rfl mz ?_
   with_reducible refine (line_CheckCase.calls k _ _ l0_0 _ _ l0_1 a0_2 a0_3 t1504 _ ?side1 ?side2 ?side3 ?side4 A241.out).mono ?_
   (case side1 => exact cb HR0_0 HB)
   (case side2 => exact HC0_0.out)
   (case side3 => exact cb HR0_1 HB)
   (case side4 => exact HC0_1.out)
   rintro e w345 ⟨rfl, hb⟩
   refine ⟨_, rfl, ?_⟩
   replace BK1468 := bb BK1468 hb; replace BK1469 := bb BK1469 hb; replace BK1470 := bb BK1470 hb; replace BK1471 := bb BK1471 hb; replace BK1472 := bb BK1472 hb; replace HB := sb HB hb
   (try clear hb)
   refine hK.out _ _ cz (fun hHeld => ?_)
   clear hK K
   refine norm_ (a' := ?_) ?_ ?_
   rotate_left
   ·show Act.put _ (some 35) _ = _
    exact pz
   refine oneZ 3 (some 37) #[true, true, true, true, true, false, false, false, false] (one_of HT_.out (by kernel_rfl)) fun K hK => ?_
   refine goes_ Tryd.func92 (by kernel_rfl) rfl #[.int .i64 a1] (by rfl) rfl rfl mz ?_
   with_reducible refine (line_kindErr.calls a1 t1505 _ A242.out).mono ?_
   rintro e w' ⟨rfl, ⟨nd, rfl⟩⟩
   refine ⟨_, rfl, ?_⟩
   refine hK.out _ _ cz (fun hHeld => ?_)
   clear hK K
   refine norm_ (a' := ?_) ?_ ?_
   rotate_left
   ·show Act.put _ (some 37) _ = _
    exact pz
   refine oneZ 5 (some 39) #[true, true, true, true, true, true, false, false, false] (one_of HT_.out (by kernel_rfl)) fun K hK => ?_
   refine goes_ Tryd.func93 (by kernel_rfl) rfl #[.bool false, .int .i64 3] (by rfl) rfl rfl mz ?_
   with_reducible refine (line_unless.calls false 3 t1506 _ A243.out).mono ?_
   rintro e w' ⟨rfl, ⟨nd, rfl⟩⟩
   refine ⟨_, rfl, ?_⟩
   refine hK.out _ _ cz (fun hHeld => ?_)
   clear hK K
   refine norm_ (a' := ?_) ?_ ?_
   rotate_left
   ·show Act.put _ (some 39) _ = _
    exact pz
   refine oneZ 6 (some 40) #[true, true, true, true, true, true, true, false, false] (one_of HT_.out (by kernel_rfl)) fun K hK => ?_
   refine Kd.R_lit_step (Kd.int .i64) _ 31 ?hg (N := 40) ?hd (xs := ([t1504, t1505, t1506] : List Int)) (inner := [.int .i64 t1504, .int .i64 t1505, .int .i64 t1506]) (ok := fun _ => True) (okp := fun _ => True) ?hr ?hp (fun _ hk => hk) trivial (Below.refl _ _) (Nat.le_refl _) (by simp) ?_; (case hd => rfl); (case hg => rfl); (case hr => first | (go_simp; done) | (go_simp; rfl)); (case hp => exact (Reps.one (show Kd.M (Kd.int .i64) _ _ _ t1504 [.int .i64 t1504] from rfl) (Reps.one (show Kd.M (Kd.int .i64) _ _ _ t1505 [.int .i64 t1505] from rfl) (Reps.one (show Kd.M (Kd.int .i64) _ _ _ t1506 [.int .i64 t1506] from rfl) (Reps.none _ _)))))
   intro v1508 w346 ho347 hb hg_ hnew_
   clear hg_ hnew_
   (first | rw [← Ny1507.out] at ho347 | (simp only [Int.reduceToNat] at ho347; rw [← Ny1507.out] at ho347))
   have HO1509 := m0 (Kd.R_lower (Kd.R_newB ho347 (g := gb1472) (o := .cells #[.int .i64 0] 31 (0, 0)) (bk BK1472.out)) (below_size bz)); replace BK1468 := bb BK1468 hb; replace BK1469 := bb BK1469 hb; replace BK1470 := bb BK1470 hb; replace BK1471 := bb BK1471 hb; replace BK1472 := bb BK1472 hb; replace HB := sb HB hb
   clear hb ho347
   obtain ⟨Ao348, co348, eo348⟩ := Kd.R_slice HO1509.out
   (first | subst eo348 | (injection eo348 with f1_ f2_ f3_; have f4_ := f1_.symm; have f5_ := f3_.symm; clear f1_ f2_ f3_; subst f4_; subst f5_))
   refine hK.out _ _ cz (fun hHeld => ?_)
   clear hK K
   refine norm_ (a' := ?_) ?_ ?_
   rotate_left
   ·show Act.put _ (some 40) _ = _
    exact pz
   refine oneZ 7 (some 41) #[true, true, true, true, true, true, true, true, false] (one_of HT_.out (by kernel_rfl)) fun K hK => ?_
   refine goes_ Tryd.func91 (by kernel_rfl) rfl #[.slice Ao348 y1507.length co348] (by rfl) rfl rfl mz ?_
   with_reducible refine (line_first.calls k _ _ y1507 t1510 _ ?side1 ?side2 A244.out).mono ?_
   (case side1 => exact bc (Kd.R_reads' HO1509.out).2.2)
   (case side2 => exact (Kd.R_reads' HO1509.out).2.1)
   rintro e w' ⟨rfl, ⟨nd, rfl⟩⟩
   refine ⟨_, rfl, ?_⟩
   refine hK.out _ _ cz (fun hHeld => ?_)
   clear hK K
   refine norm_ (a' := ?_) ?_ ?_
   rotate_left
   ·show Act.put _ (some 41) _ = _
    exact pz
   refine pureZ (i := 8) (N := some 9) #[true, true, true, true, true, true, true, true, true] HT_ ?_
   refine done_ (done_of HT_.out (by kernel_rfl)) ?_
   have hnb349 := NB1471_1468.out
   have hnc349 := NB1468_1471.out
   have hnb350 := NB1471_1469.out
   have hnc350 := NB1469_1471.out
   have hnb351 := NB1471_1472.out
   have hnc351 := NB1472_1471.out
   obtain ⟨_, _⟩ := b1 BK1471
   have hnb353 := NB1472_1468.out
   have hnc353 := NB1468_1472.out
   have hnb354 := NB1472_1469.out
   have hnc354 := NB1469_1472.out
   obtain ⟨_, _⟩ := b1 BK1472
   try go_wp2
   refine bodyPostM_ret (results_11 rfl _ _ gb1471 gb1472 3 31 #[.int .i64 0] #[.int .i64 t1510] (0, 0) (0, 0) _ _ rfl (by (with_reducible repeat (first | refine blk_drewN ?_ _ | refine blk_drew ?_ | refine blk_alloc ?_ _)); refine blk_far ?_ NB1471_1472.out _; (with_reducible repeat (first | refine blk_drewN ?_ _ | refine blk_drew ?_ | refine blk_alloc ?_ _)); refine blk_put (cs := #[.int .i64 0]) ?_ 0 _ rfl; (with_reducible repeat (first | refine blk_drewN ?_ _ | refine blk_drew ?_ | refine blk_alloc ?_ _)); exact BK1471.out) Tryd.underlying3 rfl (by kernel_rfl) rfl (by (with_reducible repeat (first | refine blk_drewN ?_ _ | refine blk_drew ?_ | refine blk_alloc ?_ _)); refine blk_put (cs := #[.int .i64 0]) ?_ 0 _ rfl; (with_reducible repeat (first | refine blk_drewN ?_ _ | refine blk_drew ?_ | refine blk_alloc ?_ _)); refine blk_far ?_ NB1472_1471.out _; (with_reducible repeat (first | refine blk_drewN ?_ _ | refine blk_drew ?_ | refine blk_alloc ?_ _)); exact BK1472.out) Tryd.underlying31 rfl (by kernel_rfl)) rfl ?_
   exact ez
end Go.Proofs.YtjnkphmcndaijaaDoor.A
