/- Walks of the program's functions (printed, made shorter), each with what it computes. -/
import Derived.Maps.Own
import Derived.Test.YtibhfahbabgbaaaTX08
import Derived.Shelf.SlSortCmp.Insertion
namespace Go.Proofs.Ytibhfahbabgbaaa.A
set_option maxHeartbeats 8000000
set_option maxRecDepth 100000
open Go.RowKit Go.Proofs.YtibhfahbabgbaaaW.PrintWords Go.Proofs.YtibhfahbabgbaaaW.PrintLast Go.Proofs.YtibhfahbabgbaaaW.PrintMore
attribute [local go_sem] max2_int min2_int max_two min_two max_three min_three max_four min_four
set_option linter.unusedVariables false
set_option linter.unusedSimpArgs false
section
/-- The map's entries when the names ns, each new, have been stored one by one. -/
def ents (ns : List ByteArray) : Array MapEntry := (ns.mapIdx fun i s => ({ key := .string s, val := .bool true, born := i } : MapEntry)).toArray
def MapIs (w : World) (b : Nat) (ns : List ByteArray) : Prop := w.heap[b]? = some (.map (ents ns) ns.length)
def namesTo (l : List S42) (x : Int) : List ByteArray := (l.take x.toNat).map fun t => t.f0
def hasName (ns : List ByteArray) (s : ByteArray) : Bool := ns.any fun t => t == s
theorem hasName_iff (ns : List ByteArray) (s : ByteArray) : hasName ns s = true ↔ s ∈ ns := by
 unfold hasName; rw [List.any_eq_true]; exact ⟨fun ⟨x, hx, h⟩ => by rw [MapKept.bytes_beq] at h; exact h ▸ hx, fun h => ⟨s, h, by rw [MapKept.bytes_beq]⟩⟩
theorem hasName_not {ns : List ByteArray} {s : ByteArray} (h : ¬ s ∈ ns) : hasName ns s = false := Bool.eq_false_iff.mpr fun h1 => h ((hasName_iff ns s).mp h1)
def seenAt (l : List S42) (x : Int) : Bool := hasName (namesTo l x) (rd_T42 l x).f0
theorem map_new (w : World) : MapIs (w.alloc (.map #[] 0)) w.heap.size [] := by
 unfold MapIs; simp only [World.alloc, Array.getElem?_push, if_true]
 rfl
theorem map_alloc {w : World} {b : Nat} {ns : List ByteArray} (h : MapIs w b ns) (o : Obj) : MapIs (w.alloc o) b ns := blk_alloc h o
theorem map_drewN {w : World} {b : Nat} {ns : List ByteArray} (h : MapIs w b ns) (n : Nat) : MapIs (w.drewN n) b ns := blk_drewN h n
theorem map_drew {w : World} {b : Nat} {ns : List ByteArray} (h : MapIs w b ns) : MapIs w.drew b ns := blk_drew h
theorem map_below {w w1 : World} {b : Nat} {ns : List ByteArray} (h : MapIs w b ns) (hb : Below w.heap.size w w1) : MapIs w1 b ns := blk_below h hb
theorem map_lt {w : World} {b : Nat} {ns : List ByteArray} (h : MapIs w b ns) : b < w.heap.size := blk_lt h
theorem map_set {w : World} {b g j : Nat} {v : Value} {ns : List ByteArray} (h : MapIs w b ns) (hne : b ≠ g) : MapIs (w.setCell ⟨g, j, none⟩ v) b ns := (Below.heap_setCell w ⟨g, j, none⟩ v b hne).trans h
theorem ents_key (ns : List ByteArray) : ∀ x ∈ (ents ns).toList, ∃ s ∈ ns, x.key = .string s ∧ x.val = .bool true := by
 intro x hx; simp only [ents, List.mem_mapIdx] at hx; obtain ⟨i, hi, rfl⟩ := hx; exact ⟨_, List.getElem_mem hi, rfl, rfl⟩
theorem ents_has (ns : List ByteArray) (s : ByteArray) (h : s ∈ ns) : ∃ x ∈ (ents ns).toList, x.key = .string s := by
 obtain ⟨i, hi, rfl⟩ := List.getElem_of_mem h; exact ⟨_, by simp only [ents, List.mem_mapIdx]; exact ⟨i, hi, rfl⟩, rfl⟩
theorem ents_push (ns : List ByteArray) (s : ByteArray) : (ents ns).push { key := .string s, val := .bool true, born := ns.length } = ents (ns ++ [s]) := by
 unfold ents; rw [List.mapIdx_append]
 simp
theorem ents_isKey (ns : List ByteArray) : ∀ x ∈ (ents ns).toList, MapKept.IsKey .string x.key := by
 intro x hx; obtain ⟨s, _, h, _⟩ := ents_key ns x hx; rw [h]
 trivial
theorem map_look {w : World} {b : Nat} {ns : List ByteArray} (h : MapIs w b ns) (s : ByteArray) : (Instr.lookup 131 (.map (some b)) (.string s) false).run Try.prog w = .ok (.bool (hasName ns s)) w := by
 have hu := Try.underlying131; have hs := Try.underlying9; have hz : ∀ w, (zeroValue 4).run Try.prog w = .ok (.bool false) w := fun w => Try.zeroValue4 w; have hg := MapKept.run_getObj_map (P := Try.prog) h
 rcases MapKept.findNow_spec (d := .string) (k := .string s) trivial (ents ns).toList 0 (ents_isKey ns) with ⟨h1, h2⟩ | ⟨j, e, h1, h2, h3⟩
 ·have hc : hasName ns s = false := by
   refine hasName_not fun hm => ?_; obtain ⟨x, hx, hk⟩ := ents_has ns s hm; exact h2 x hx hk
  have hf := MapKept.run_findKey (P := Try.prog) (w := w) hs h1; have hk := MapKept.run_checkKey (P := Try.prog) (w := w) (k := .string s) hs trivial (ents ns).isEmpty 9999; rw [hc]
  simp [Instr.lookup, run_underlying hu, Result.andThen, hg, hf, hk, hz]
 ·have hc : hasName ns s = true := by
   rw [hasName_iff]; obtain ⟨s', hs', hk, _⟩ := ents_key ns e (List.mem_of_getElem? h2); rw [hk] at h3
   cases h3
   exact hs'
  have hv : e.val = .bool true := by
   obtain ⟨_, _, _, hv⟩ := ents_key ns e (List.mem_of_getElem? h2); exact hv
  have hf := MapKept.run_findKey (P := Try.prog) (w := w) hs h1; have hk := MapKept.run_checkKey (P := Try.prog) (w := w) (k := .string s) hs trivial (ents ns).isEmpty 9999; rw [hc]
  simp [Instr.lookup, run_underlying hu, Result.andThen, hg, hf, hk, hv]
theorem map_put {w : World} {b : Nat} {ns : List ByteArray} (h : MapIs w b ns) (s : ByteArray) (hc : hasName ns s = false) : ∃ w', (Instr.mapUpdate 131 (.map (some b)) (.string s) (.bool true)).run Try.prog w = .ok () w' ∧ MapIs w' b (ns ++ [s]) ∧ Below b w w' := by
 have hu := Try.underlying131; have hs := Try.underlying9; have hg := MapKept.run_getObj_map (P := Try.prog) h; have hk := MapKept.run_checkKey (P := Try.prog) (w := w) (k := .string s) hs trivial false 9999
 rcases MapKept.findNow_spec (d := .string) (k := .string s) trivial (ents ns).toList 0 (ents_isKey ns) with ⟨h1, h2⟩ | ⟨j, e, h1, h2, h3⟩
 ·have hf := MapKept.run_findKey (P := Try.prog) (w := w) hs h1; have hst := MapKept.run_setObj_map (P := Try.prog) (.map ((ents ns).push { key := .string s, val := .bool true, born := ns.length }) (ns.length + 1)) h; refine ⟨{ w with heap := w.heap.setIfInBounds b (.map ((ents ns).push { key := .string s, val := .bool true, born := ns.length }) (ns.length + 1)) }, by simp only [Instr.mapUpdate, Sem.run_bind, run_underlying hu, Result.andThen_ok, hg, hk, hf]; exact hst, ?_, ⟨rfl, rfl, rfl, by simp, fun k hlt => ?_⟩⟩
  ·unfold MapIs; rw [ents_push]; have := map_lt h
   simp [this]
  ·show (w.heap.setIfInBounds b _)[k]? = _
   rw [Array.getElem?_setIfInBounds_ne (by omega)]
 ·exfalso
  obtain ⟨s', hs', hk', _⟩ := ents_key ns e (List.mem_of_getElem? h2); rw [hk'] at h3
  cases h3
  rw [(hasName_iff ns _).mpr hs'] at hc
  cases hc
theorem namesTo_up {l : List S42} {x : Int} (h0 : 0 ≤ x) (h1 : x < (l.length : Int)) (hw : (l.length : Int) ≤ 10) : namesTo l (wrap64 (x + 1)) = namesTo l x ++ [(rd_T42 l x).f0] := by
 have e1 : wrap64 (x + 1) = x + 1 := by unfold wrap64; omega
 have e2 : (x + 1).toNat = x.toNat + 1 := by omega
 have e3 : x.toNat < l.length := by omega
 unfold namesTo; rw [e1, e2, List.take_add_one, List.map_append, List.getElem?_eq_getElem e3]
 simp [rd_T42, List.getD_eq_getElem?_getD, List.getElem?_eq_getElem e3]
theorem map_put_at {w : World} {ops : Array Oper} {rest : List Oper} {o : Oper} {a : Act} {Q : Exit → Act → World → Prop}
  (hg : o.guard = none) (m x v : Operand) (hop : o.op = Op.mapUpdate 131 m x v) (b : Nat) (ns : List ByteArray) (s : ByteArray)
  (hm : a.eval m = .map (some b)) (hx : a.eval x = .string s) (hv : a.eval v = .bool true) (h : MapIs w b ns) (hc : hasName ns s = false)
  (hK : ∀ w', MapIs w' b (ns ++ [s]) → Below b w w' → wpList Try.prog ops Q rest (a.put o.dst undef) w') : wpList Try.prog ops Q (o :: rest) a w := by
 refine wpList_plain hg fun K' hK' => ?_; obtain ⟨w', hrun, r1, r2⟩ := map_put h s hc; unfold Oper.wp
 simp [execOp, hop, hm, hx, hv, hrun, Result.andThen]
 exact hK' _ _ (hK w' r1 r2)
theorem map_run_look {w : World} {o : Oper} {a : Act} {m x : Operand} {b : Nat} {s : ByteArray} {r : Bool} (hop : o.op = Op.lookup 131 m x false) (hm : a.eval m = .map (some b)) (hx : a.eval x = .string s)
  (h : (Instr.lookup 131 (.map (some b)) (.string s) false).run Try.prog w = .ok (.bool r) w) : (execOp a.eval o).run Try.prog w = .ok (.value (.bool r)) w := by
 unfold execOp
 simp [hop, hm, hx, h, Result.andThen]
theorem tasks_new {a b c : Int} {s : Bool} {k : Nat} {y : List Int} (h8 : L_unless.f (!s) 5 = some b) {z : Int} (h13 : L_first.f k y = some z) (hz : (z == 0) = true) (hy : y = [a, b, c]) : s = false := by
 subst hy; obtain rfl := beq_iff_eq.mp hz; unfold L_first.f at h13
 match k with
 | 0 => simp [L_first.l0] at h13
 | 1 => simp [L_first.l0] at h13
 | k + 2 =>
  cases s
  ·rfl
  ·exfalso
   simp [L_unless.f] at h8
   subst h8
   simp [L_first.l0, rd] at h13
   split at h13 <;> simp_all [show wrap64 1 = 1 from by unfold wrap64; omega]
def L_CheckTasks.l0 : Nat → List (S42) → Int → Int → Option (Int × Int)
 | 0, _, _, _ => none
 | k + 1, x12, x13, x14 => if x14 < x13 then (if 0 ≤ x14 then (if x14 < (x12.length : Int) then ((L_isName.f ((rd_T42 x12 x14).f0)).bind fun t104 => ((L_unless.f t104 4).bind fun t105 => ((L_unless.f (!(seenAt x12 x14)) 5).bind fun t106 => ((L_within.f ((rd_T42 x12 x14).f1) 0 1000).bind fun t107 => (if t107 = true then ((L_within.f ((rd_T42 x12 x14).f2) 0 1000).bind fun t108 => ((L_unless.f t108 2).bind fun t109 => ((L_first.f k (([t105, t106, t109] : List Int))).bind fun t113 => (if t113 = 0 then (L_CheckTasks.l0 k x12 x13 (wrap64 (x14 + 1))) else (some (x14, t113)))))) else ((L_unless.f false 2).bind fun t114 => ((L_first.f k (([t105, t106, t114] : List Int))).bind fun t118 => (if t118 = 0 then (L_CheckTasks.l0 k x12 x13 (wrap64 (x14 + 1))) else (some (x14, t118)))))))))) else (none)) else (none)) else (some (0, 0))
def L_CheckTasks.f (k : Nat) (l0 : List (S42)) : Option (Int × Int) := if (l0.length : Int) > 10 then (some (0, 8)) else (L_CheckTasks.l0 k l0 (l0.length : Int) 0)
theorem L_CheckTasks.mono_l : ∀ k, (∀ y0 y1 y2, LeO (L_CheckTasks.l0 k y0 y1 y2) (L_CheckTasks.l0 (k + 1) y0 y1 y2))
 | 0 => fun _ _ _ r h => by simp [L_CheckTasks.l0] at h
 | k + 1 => by
  have ih0 := L_CheckTasks.mono_l k
  ·intro y0 y1 y2; unfold L_CheckTasks.l0
   repeat' with_reducible first
    | exact ih0 ..
    | exact L_first.mono ..
    | exact LeO.refl ..
    | exact LeO.none ..
    | refine LeO.ite ?_ ?_
    | refine LeO.bind ?_ (fun _ => ?_)
theorem L_CheckTasks.mono : ∀ a0 k, LeO (L_CheckTasks.f k a0) (L_CheckTasks.f (k + 1) a0) := by
 intro a0 k; have ih0 := L_CheckTasks.mono_l k; unfold L_CheckTasks.f
 repeat' with_reducible first
  | exact ih0 ..
  | exact L_first.mono ..
  | exact LeO.refl ..
  | exact LeO.none ..
  | refine LeO.ite ?_ ?_
  | refine LeO.bind ?_ (fun _ => ?_)
def L_CheckTasks.T7 : Bool × List (List Nat × List Nat) := (true, [([], []), ([0], [0]), ([1], [1]), ([2, 2], [2]), ([], []), ([], []), ([5], [5]), ([4, 6], [4, 6]), ([7], [7]), ([8, 3], [8]), ([], []), ([10], [10]), ([11, 9], [11]), ([12, 12], [12]), ([13], [13]), ([14, 13], [13, 14]), ([15, 13, 13], [13, 15]), ([13, 16], [13, 16]), ([17, 16], [17]), ([3, 9, 18], [3, 9, 18]), ([19, 18], [19]), ([20, 20, 0, 1, 2, 3, 4, 5, 6, 7, 8, 9, 10, 11, 12, 13, 14, 15, 16, 17, 18, 19, 20], [20])])
def L_CheckTasks.B7 : List Nat := [0, 1, 3, 7, 0, 0, 32, 112, 240, 511, 0, 1024, 4095, 8191, 16383, 32767, 65535, 131071, 262143, 524287, 1048575, 2097151]
theorem L_CheckTasks.tab7 : rtab .any (opsOf Try.f15 7) = L_CheckTasks.T7 := by kernel_rfl
theorem L_CheckTasks.bits7 : waitsOk L_CheckTasks.T7.2 L_CheckTasks.B7 = true := by kernel_rfl
theorem L_CheckTasks.calls (k : Nat) (A0 : Option Addr) (c0 : Nat) (l0 : List (S42)) (r1 : Int) (r2 : Int) (w : World) (hr0 : Kd.C k42 w A0 l0.length l0) (hc0 : l0.length ≤ c0) (H : L_CheckTasks.f k l0 = some (r1, r2)) :
  Calls Try.prog 15 #[.slice A0 l0.length c0] w fun e w' => e = .returned (.tuple #[.int .i64 r1, .int .i64 r2]) ∧ Below w.heap.size w w' := by
 have hu42 := Try.underlying42; have HR0 := m0 hr0; have HC0 := m0 hc0; clear hr0 hc0; have HB := m0 (Below.refl w.heap.size w); unfold L_CheckTasks.f at H
 by_cases c2 : (l0.length : Int) > 10
 ·rw [if_pos c2] at H; have c2b0 := decide_eq_true c2; have c2b1 : decide (10 < l0.length) = true := decide_eq_true (by omega); clear c2; simp only [Option.some.injEq, Prod.mk.injEq] at H; obtain ⟨rfl, rfl⟩ := H; go_enter Try.func15, Try.ntmps15
  go_wp2
  go_ret2
  exact ez
 ·rw [if_neg c2] at H; have c2b0 := decide_eq_false c2; have c2b1 : decide (10 < l0.length) = false := decide_eq_false (by omega); have HL10 := m0 (show (l0.length : Int) ≤ 10 from by omega); clear c2; have H' := m0 H; clear H; have hmm := @run_makeMap Try.prog; go_enter Try.func15, Try.ntmps15
  go_wp2
  go_loopg [14] k (fun kq v14 w' => ∃ (x14_1 : Int), v14 = .int .i64 x14_1 ∧ Aside0 (L_CheckTasks.l0 kq l0 (l0.length : Int) x14_1 = some (r1, r2)) ∧ Aside0 (kq ≤ k) ∧ Aside0 (Below w.heap.size w w') ∧ Aside0 (MapIs w' w.heap.size (namesTo l0 x14_1)))
  case atStart => exact ⟨(0), rz, H', ⟨Nat.le_refl _⟩, ⟨bz⟩, ⟨by (with_reducible repeat (first | refine map_drewN ?_ _ | refine map_drew ?_)); exact map_new _⟩⟩
  case round =>
   clear H'; obtain ⟨x14_1, rfl, HA, HK1, HB, MK⟩ := hrel
   cases gk with
   | zero => exact absurd HA.out (by simp [L_CheckTasks.l0])
   | succ k1 =>
    have H := HA.out; clear HA; simp only [L_CheckTasks.l0] at H
    by_cases c3 : x14_1 < (l0.length : Int)
    ·rw [if_pos c3] at H; have c3b0 := decide_eq_true c3; clear c3
     by_cases c4 : 0 ≤ x14_1
     ·rw [if_pos c4] at H; have c4b0 := decide_eq_true c4; clear c4
      by_cases c5 : x14_1 < (l0.length : Int)
      ·rw [if_pos c5] at H; have c5b0 := decide_eq_true c5; clear c5; replace H := oa H; obtain ⟨t104, A6, H⟩ := H; (try dsimp only at H); replace H := oa H; obtain ⟨t105, A7, H⟩ := H; (try dsimp only at H); replace H := oa H; obtain ⟨t106, A8, H⟩ := H; (try dsimp only at H); replace H := oa H; obtain ⟨t107, A9, H⟩ := H; (try dsimp only at H)
       by_cases c10 : t107 = true
       ·subst c10; rw [if_pos rfl] at H; replace H := oa H; obtain ⟨t108, A11, H⟩ := H; (try dsimp only at H); replace H := oa H; obtain ⟨t109, A12, H⟩ := H; (try dsimp only at H); obtain ⟨y110, hy110⟩ : ∃ y_ : List Int, y_ = (([t105, t106, t109] : List Int)) := ⟨_, rfl⟩; replace H : ((L_first.f k1 y110).bind fun t113 => (if t113 = 0 then (L_CheckTasks.l0 k1 l0 (l0.length : Int) (wrap64 (x14_1 + 1))) else (some (x14_1, t113)))) = some (r1, r2) := by first | (rw [hy110]; with_reducible exact H) | (have H2_ := (Option.bind_some _ _).symm.trans H; rw [hy110]; with_reducible exact H2_) | (have H2_ := (Option.bind_some _ _).symm.trans H; with_reducible exact H2_) | with_reducible exact H | (rw [hy110]; exact H) | exact H
        have Ny110 := m0 hy110; clear hy110; replace H := oa H; obtain ⟨t113, A13, H⟩ := H; (try dsimp only at H)
        by_cases c14 : t113 = 0
        ·rw [if_pos c14] at H; have c14b0 := beq_iff_eq.mpr c14; have c14b1 := bne_eq_false_iff_eq.mpr c14; clear c14; have H' := m0 H; clear H; have p102 : 0 ≤ (x14_1 : Int) := od; have q102 : x14_1 < (l0.length : Int) := od; obtain ⟨ad102, e102, hx102_0, hx102_1, hx102_2⟩ := at_T42 HR0.out x14_1 p102 q102
         cases e102
         replace hx102_0 := hc HB hx102_0; replace hx102_1 := hc HB hx102_1; replace hx102_2 := hc HB hx102_2; replace p102 := eq_true p102; replace q102 := eq_true q102
         try go_wp2_with (first | ((with_reducible refine ga 6 rfl ?_); refine be 6 42 #[.string (⟨#[]⟩ : ByteArray), .int .i64 0, .int .i64 0] ?_; intro gb103 hg w15 hbox hb; have GM103 := m0 (show w.heap.size ≠ gb103 from by rw [hg]; exact Nat.ne_of_lt (map_lt MK.out)); have m0_ := m0 (map_below (by (with_reducible repeat (first | refine map_drewN ?_ _ | refine map_drew ?_ | refine map_alloc ?_ _)); exact MK.out) hb); clear MK; have MK := m0_; clear m0_; have BK103 := m0 hbox; have GE103 := gw w hg; replace HB := sb HB hb; clear hb hbox hg; obtain ⟨_, _, _, _, _, _⟩ := b3 BK103))
         have n0_ : Aside0 ((((w15.setCell ⟨gb103, 0, none⟩ (.string ((rd_T42 l0 x14_1).f0))).setCell ⟨gb103, 1, none⟩ (.int .i64 ((rd_T42 l0 x14_1).f1))).setCell ⟨gb103, 2, none⟩ (.int .i64 ((rd_T42 l0 x14_1).f2))).heap[gb103]? = some (.cells #[.string ((rd_T42 l0 x14_1).f0), .int .i64 ((rd_T42 l0 x14_1).f1), .int .i64 ((rd_T42 l0 x14_1).f2)] 42 (0, 0))) := ⟨bq BK103.out⟩; have n1_ : Aside0 (Below w.heap.size w (((w15.setCell ⟨gb103, 0, none⟩ (.string ((rd_T42 l0 x14_1).f0))).setCell ⟨gb103, 1, none⟩ (.int .i64 ((rd_T42 l0 x14_1).f1))).setCell ⟨gb103, 2, none⟩ (.int .i64 ((rd_T42 l0 x14_1).f2)))) := ⟨bz⟩; (try clear BK103); (try clear HB); have m0_ : Aside0 (MapIs (((w15.setCell ⟨gb103, 0, none⟩ (.string ((rd_T42 l0 x14_1).f0))).setCell ⟨gb103, 1, none⟩ (.int .i64 ((rd_T42 l0 x14_1).f1))).setCell ⟨gb103, 2, none⟩ (.int .i64 ((rd_T42 l0 x14_1).f2))) w.heap.size (namesTo l0 x14_1)) := ⟨map_set (map_set (map_set MK.out GM103.out) GM103.out) GM103.out⟩; clear MK; generalize (((w15.setCell ⟨gb103, 0, none⟩ (.string ((rd_T42 l0 x14_1).f0))).setCell ⟨gb103, 1, none⟩ (.int .i64 ((rd_T42 l0 x14_1).f1))).setCell ⟨gb103, 2, none⟩ (.int .i64 ((rd_T42 l0 x14_1).f2))) = w17 at n0_ n1_ m0_ ⊢; have MK := m0 (map_drew m0_.out); clear m0_; have BK103 := n0_; have HB := n1_; clear n0_ n1_; replace BK103 := bd BK103; replace HB := sd HB; refine start_ (n := 22) (S := fun w' => w'.cell? ⟨gb103, 0, none⟩ = some (.string ((rd_T42 l0 x14_1).f0)) ∧ w'.cell? ⟨gb103, 1, none⟩ = some (.int .i64 ((rd_T42 l0 x14_1).f1)) ∧ w'.cell? ⟨gb103, 2, none⟩ = some (.int .i64 ((rd_T42 l0 x14_1).f2)) ∧ MapIs w' w.heap.size (namesTo l0 x14_1)) (ds := []) _ (by kernel_rfl) rfl rfl ⟨(blk_cell BK103.out 0).trans rfl, (blk_cell BK103.out 1).trans rfl, (blk_cell BK103.out 2).trans rfl, MK.out⟩ (fun hH => ?_); refine with_tabW L_CheckTasks.tab7 L_CheckTasks.bits7 (fun HT_ HW_ => ?_); generalize w17.drew = w18 at BK103 HB MK hH ⊢; refine pZ 0 (some 19) (bs 22 1) HT_ ?_; refine pZ 4 (some 23) (bs 22 17) HT_ ?_; refine pZ 5 (some 24) (bs 22 49) HT_ ?_; refine pZ 10 (some 29) (bs 22 1073) HT_ ?_; refine takeZ 1 (some 20) (bs 22 1075) (tw HT_ HW_) hH ?_; refine takeZ 6 (some 25) (bs 22 1139) (tw HT_ HW_) hH ?_; refine take_ (i := 7) (N := some 26) (v := ?_) (a' := ?_) (bs 22 1267) rfl rfl (tw HT_ HW_) (fun _ _ _ h => h) (Or.inl ⟨by rfl, ?_⟩) hH ?_ ?_; rotate_left
         ·rintro w' ⟨s0, s1, s2, s3⟩; have hl : (Instr.lookup 131 (.map (some w.heap.size)) (.string (rd_T42 l0 x14_1).f0) false).run Try.prog w' = .ok (.bool (seenAt l0 x14_1)) w' := map_look s3 (rd_T42 l0 x14_1).f0
          go_simp
          with_reducible rfl
         rotate_left
         ·exact pz
         refine pZ 8 (some 27) (bs 22 1523) HT_ ?_; refine takeZ 11 (some 30) (bs 22 3571) (tw HT_ HW_) hH ?_; refine oneZ 2 (some 21) (bs 22 3575) (o1 HT_) fun K hK => ?_; refine gz Try.func77 #[.string ((rd_T42 l0 x14_1).f0)] ?_
         with_reducible refine (L_isName.calls ((rd_T42 l0 x14_1).f0) t104 _ A6.out).mono ?_
         rintro e w19 ⟨rfl, hb⟩; have m0_ := m0 (map_below (by (with_reducible repeat (first | refine map_drewN ?_ _ | refine map_drew ?_ | refine map_alloc ?_ _)); exact MK.out) hb); clear MK; have MK := m0_; clear m0_; refine ⟨_, rfl, ?_⟩; replace BK103 := bb BK103 hb; replace HB := sb HB hb; (try clear hb); refine hK.out _ _ ⟨(blk_cell BK103.out 0).trans rfl, (blk_cell BK103.out 1).trans rfl, (blk_cell BK103.out 2).trans rfl, MK.out⟩ (fun hH => ?_); clear hK K; refine nz 21 ?_; refine oneZ 3 (some 22) (bs 22 3583) (o1 HT_) fun K hK => ?_; refine gz Try.func76 #[.bool t104, .int .i64 4] ?_
         with_reducible refine (L_unless.calls t104 4 t105 _ A7.out).mono ?_
         rintro e w' ⟨rfl, ⟨nd, rfl⟩⟩; refine ⟨_, rfl, ?_⟩; refine hK.out _ _ ⟨(blk_cell BK103.out 0).trans rfl, (blk_cell BK103.out 1).trans rfl, (blk_cell BK103.out 2).trans rfl, MK.out⟩ (fun hH => ?_); clear hK K; refine nz 22 ?_; refine oneZ 9 (some 28) (bs 22 4095) (o1 HT_) fun K hK => ?_; refine gz Try.func76 #[.bool (!(seenAt l0 x14_1)), .int .i64 5] ?_
         with_reducible refine (L_unless.calls (!(seenAt l0 x14_1)) 5 t106 _ A8.out).mono ?_
         rintro e w' ⟨rfl, ⟨nd, rfl⟩⟩; refine ⟨_, rfl, ?_⟩; refine hK.out _ _ ⟨(blk_cell BK103.out 0).trans rfl, (blk_cell BK103.out 1).trans rfl, (blk_cell BK103.out 2).trans rfl, MK.out⟩ (fun hH => ?_); clear hK K; refine nz 28 ?_; refine oneZ 12 (some 31) (bs 22 8191) (o1 HT_) fun K hK => ?_; refine gz Try.func78 #[.int .i64 ((rd_T42 l0 x14_1).f1), .int .i64 0, .int .i64 1000] ?_
         with_reducible refine (L_within.calls ((rd_T42 l0 x14_1).f1) 0 1000 true _ A9.out).mono ?_
         rintro e w' ⟨rfl, ⟨nd, rfl⟩⟩; refine ⟨_, rfl, ?_⟩; refine hK.out _ _ ⟨(blk_cell BK103.out 0).trans rfl, (blk_cell BK103.out 1).trans rfl, (blk_cell BK103.out 2).trans rfl, MK.out⟩ (fun hH => ?_); clear hK K; refine nz 31 ?_; refine pZ 13 (some 32) (bs 22 16383) HT_ ?_; refine pZ 14 (some 33) (bs 22 32767) HT_ ?_; refine takeZ 15 (some 34) (bs 22 65535) (tw HT_ HW_) hH ?_; refine oneZ 16 (some 35) (bs 22 131071) (o1 HT_) fun K hK => ?_; refine gz Try.func78 #[.int .i64 ((rd_T42 l0 x14_1).f2), .int .i64 0, .int .i64 1000] ?_
         with_reducible refine (L_within.calls ((rd_T42 l0 x14_1).f2) 0 1000 t108 _ A11.out).mono ?_
         rintro e w' ⟨rfl, ⟨nd, rfl⟩⟩; refine ⟨_, rfl, ?_⟩; refine hK.out _ _ ⟨(blk_cell BK103.out 0).trans rfl, (blk_cell BK103.out 1).trans rfl, (blk_cell BK103.out 2).trans rfl, MK.out⟩ (fun hH => ?_); clear hK K; refine nz 35 ?_; refine pZ 17 (some 36) (bs 22 262143) HT_ ?_; refine oneZ 18 (some 37) (bs 22 524287) (o1 HT_) fun K hK => ?_; refine gz Try.func76 #[.bool t108, .int .i64 2] ?_
         with_reducible refine (L_unless.calls t108 2 t109 _ A12.out).mono ?_
         rintro e w' ⟨rfl, ⟨nd, rfl⟩⟩; refine ⟨_, rfl, ?_⟩; refine hK.out _ _ ⟨(blk_cell BK103.out 0).trans rfl, (blk_cell BK103.out 1).trans rfl, (blk_cell BK103.out 2).trans rfl, MK.out⟩ (fun hH => ?_); clear hK K; refine nz 37 ?_; refine oneZ 19 (some 38) (bs 22 1048575) (o1 HT_) fun K hK => ?_; refine Kd.R_lit_step (Kd.int .i64) _ 24 ?hg (N := 38) ?hd (xs := ([t105, t106, t109] : List Int)) (inner := [.int .i64 t105, .int .i64 t106, .int .i64 t109]) (ok := fun _ => True) (okp := fun _ => True) ?hr ?hp (fun _ hk => hk) trivial (Below.refl _ _) (Nat.le_refl _) (by simp) ?_; (case hd => rfl); (case hg => rfl); (case hr => first | (go_simp; done) | (go_simp; rfl)); (case hp => exact (Reps.one (ki t105) (Reps.one (ki t106) (Reps.one (ki t109) (Reps.none _ _)))))
         intro v111 w20 ho21 hb hg_ hnew_; have m0_ := m0 (map_below (by (with_reducible repeat (first | refine map_drewN ?_ _ | refine map_drew ?_ | refine map_alloc ?_ _)); exact MK.out) hb); clear MK; have MK := m0_; clear m0_; clear hg_ hnew_
         (first | rw [← Ny110.out] at ho21 | (simp only [Int.reduceToNat] at ho21; rw [← Ny110.out] at ho21))
         have HO112 := m0 (Kd.R_lower ho21 (below_size bz)); replace BK103 := bb BK103 hb; replace HB := sb HB hb; clear hb ho21; obtain ⟨Ao22, co22, eo22⟩ := Kd.R_slice HO112.out; subst eo22; refine hK.out _ _ ⟨(blk_cell BK103.out 0).trans rfl, (blk_cell BK103.out 1).trans rfl, (blk_cell BK103.out 2).trans rfl, MK.out⟩ (fun hH => ?_); clear hK K; refine nz 38 ?_; refine oneZ 20 (some 39) (bs 22 2097151) (o1 HT_) fun K hK => ?_; refine gz Try.func75 #[.slice Ao22 y110.length co22] ?_
         with_reducible refine (L_first.calls k1 _ _ y110 t113 _ ?side1 ?side2 A13.out).mono ?_
         (case side1 => exact bc (Kd.R_reads' HO112.out).2.2)
         (case side2 => exact (Kd.R_reads' HO112.out).2.1)
         rintro e w' ⟨rfl, ⟨nd, rfl⟩⟩; refine ⟨_, rfl, ?_⟩; refine hK.out _ _ ⟨(blk_cell BK103.out 0).trans rfl, (blk_cell BK103.out 1).trans rfl, (blk_cell BK103.out 2).trans rfl, MK.out⟩ (fun hH => ?_); clear hK K; refine nz 39 ?_; refine pZ 21 (some 7) (bs 22 4194303) HT_ ?_; refine done_ (done_of HT_.out (by kernel_rfl)) ?_; obtain ⟨_, _, _, _, _, _⟩ := b3 BK103; have hno := m0 (tasks_new A8.out A13.out c14b0 Ny110.out); have hup := m0 (namesTo_up (l := l0) (of_eq_true p102) (of_eq_true q102) HL10.out); obtain ⟨w41, hrun, hm41, hb41⟩ := map_put (map_drewN MK.out nd) (rd_T42 l0 x14_1).f0 hno.out; have n0_ := m0 (hup.out ▸ hm41); have n1_ := m0 ((pw_below_drewN HB.out nd).trans hb41); clear MK HB hm41 hb41; have MK := n0_; have HB := n1_; clear n0_ n1_
         go_wp2
         go_roundg k1
         case measure => have := HK1.out; omega
         case rel => exact ⟨(wrap64 (x14_1 + 1)), rz, H', ⟨by have := HK1.out; omega⟩, ⟨bz⟩, ⟨by (with_reducible repeat (first | refine map_drewN ?_ _ | refine map_drew ?_ | refine map_alloc ?_ _)); exact MK.out⟩⟩
        ·rw [if_neg c14] at H; have c14b0 := beq_eq_false_iff_ne.mpr c14; have c14b1 := bne_iff_ne.mpr c14; simp only [Option.some.injEq, Prod.mk.injEq] at H; obtain ⟨rfl, rfl⟩ := H; have p102 : 0 ≤ (x14_1 : Int) := od; have q102 : x14_1 < (l0.length : Int) := od; obtain ⟨ad102, e102, hx102_0, hx102_1, hx102_2⟩ := at_T42 HR0.out x14_1 p102 q102
         cases e102
         replace hx102_0 := hc HB hx102_0; replace hx102_1 := hc HB hx102_1; replace hx102_2 := hc HB hx102_2; replace p102 := eq_true p102; replace q102 := eq_true q102
         try go_wp2_with (first | ((with_reducible refine ga 6 rfl ?_); refine be 6 42 #[.string (⟨#[]⟩ : ByteArray), .int .i64 0, .int .i64 0] ?_; intro gb103 hg w24 hbox hb; have GM103 := m0 (show w.heap.size ≠ gb103 from by rw [hg]; exact Nat.ne_of_lt (map_lt MK.out)); have m0_ := m0 (map_below (by (with_reducible repeat (first | refine map_drewN ?_ _ | refine map_drew ?_ | refine map_alloc ?_ _)); exact MK.out) hb); clear MK; have MK := m0_; clear m0_; have BK103 := m0 hbox; have GE103 := gw w hg; replace HB := sb HB hb; clear hb hbox hg; obtain ⟨_, _, _, _, _, _⟩ := b3 BK103))
         have n0_ : Aside0 ((((w24.setCell ⟨gb103, 0, none⟩ (.string ((rd_T42 l0 x14_1).f0))).setCell ⟨gb103, 1, none⟩ (.int .i64 ((rd_T42 l0 x14_1).f1))).setCell ⟨gb103, 2, none⟩ (.int .i64 ((rd_T42 l0 x14_1).f2))).heap[gb103]? = some (.cells #[.string ((rd_T42 l0 x14_1).f0), .int .i64 ((rd_T42 l0 x14_1).f1), .int .i64 ((rd_T42 l0 x14_1).f2)] 42 (0, 0))) := ⟨bq BK103.out⟩; have n1_ : Aside0 (Below w.heap.size w (((w24.setCell ⟨gb103, 0, none⟩ (.string ((rd_T42 l0 x14_1).f0))).setCell ⟨gb103, 1, none⟩ (.int .i64 ((rd_T42 l0 x14_1).f1))).setCell ⟨gb103, 2, none⟩ (.int .i64 ((rd_T42 l0 x14_1).f2)))) := ⟨bz⟩; (try clear BK103); (try clear HB); have m0_ : Aside0 (MapIs (((w24.setCell ⟨gb103, 0, none⟩ (.string ((rd_T42 l0 x14_1).f0))).setCell ⟨gb103, 1, none⟩ (.int .i64 ((rd_T42 l0 x14_1).f1))).setCell ⟨gb103, 2, none⟩ (.int .i64 ((rd_T42 l0 x14_1).f2))) w.heap.size (namesTo l0 x14_1)) := ⟨map_set (map_set (map_set MK.out GM103.out) GM103.out) GM103.out⟩; clear MK; generalize (((w24.setCell ⟨gb103, 0, none⟩ (.string ((rd_T42 l0 x14_1).f0))).setCell ⟨gb103, 1, none⟩ (.int .i64 ((rd_T42 l0 x14_1).f1))).setCell ⟨gb103, 2, none⟩ (.int .i64 ((rd_T42 l0 x14_1).f2))) = w26 at n0_ n1_ m0_ ⊢; have MK := m0 (map_drew m0_.out); clear m0_; have BK103 := n0_; have HB := n1_; clear n0_ n1_; replace BK103 := bd BK103; replace HB := sd HB; refine start_ (n := 22) (S := fun w' => w'.cell? ⟨gb103, 0, none⟩ = some (.string ((rd_T42 l0 x14_1).f0)) ∧ w'.cell? ⟨gb103, 1, none⟩ = some (.int .i64 ((rd_T42 l0 x14_1).f1)) ∧ w'.cell? ⟨gb103, 2, none⟩ = some (.int .i64 ((rd_T42 l0 x14_1).f2)) ∧ MapIs w' w.heap.size (namesTo l0 x14_1)) (ds := []) _ (by kernel_rfl) rfl rfl ⟨(blk_cell BK103.out 0).trans rfl, (blk_cell BK103.out 1).trans rfl, (blk_cell BK103.out 2).trans rfl, MK.out⟩ (fun hH => ?_); refine with_tabW L_CheckTasks.tab7 L_CheckTasks.bits7 (fun HT_ HW_ => ?_); generalize w26.drew = w27 at BK103 HB MK hH ⊢; refine pZ 0 (some 19) (bs 22 1) HT_ ?_; refine pZ 4 (some 23) (bs 22 17) HT_ ?_; refine pZ 5 (some 24) (bs 22 49) HT_ ?_; refine pZ 10 (some 29) (bs 22 1073) HT_ ?_; refine takeZ 1 (some 20) (bs 22 1075) (tw HT_ HW_) hH ?_; refine takeZ 6 (some 25) (bs 22 1139) (tw HT_ HW_) hH ?_; refine take_ (i := 7) (N := some 26) (v := ?_) (a' := ?_) (bs 22 1267) rfl rfl (tw HT_ HW_) (fun _ _ _ h => h) (Or.inl ⟨by rfl, ?_⟩) hH ?_ ?_; rotate_left
         ·rintro w' ⟨s0, s1, s2, s3⟩; have hl : (Instr.lookup 131 (.map (some w.heap.size)) (.string (rd_T42 l0 x14_1).f0) false).run Try.prog w' = .ok (.bool (seenAt l0 x14_1)) w' := map_look s3 (rd_T42 l0 x14_1).f0
          go_simp
          with_reducible rfl
         rotate_left
         ·exact pz
         refine pZ 8 (some 27) (bs 22 1523) HT_ ?_; refine takeZ 11 (some 30) (bs 22 3571) (tw HT_ HW_) hH ?_; refine oneZ 2 (some 21) (bs 22 3575) (o1 HT_) fun K hK => ?_; refine gz Try.func77 #[.string ((rd_T42 l0 x14_1).f0)] ?_
         with_reducible refine (L_isName.calls ((rd_T42 l0 x14_1).f0) t104 _ A6.out).mono ?_
         rintro e w28 ⟨rfl, hb⟩; have m0_ := m0 (map_below (by (with_reducible repeat (first | refine map_drewN ?_ _ | refine map_drew ?_ | refine map_alloc ?_ _)); exact MK.out) hb); clear MK; have MK := m0_; clear m0_; refine ⟨_, rfl, ?_⟩; replace BK103 := bb BK103 hb; replace HB := sb HB hb; (try clear hb); refine hK.out _ _ ⟨(blk_cell BK103.out 0).trans rfl, (blk_cell BK103.out 1).trans rfl, (blk_cell BK103.out 2).trans rfl, MK.out⟩ (fun hH => ?_); clear hK K; refine nz 21 ?_; refine oneZ 3 (some 22) (bs 22 3583) (o1 HT_) fun K hK => ?_; refine gz Try.func76 #[.bool t104, .int .i64 4] ?_
         with_reducible refine (L_unless.calls t104 4 t105 _ A7.out).mono ?_
         rintro e w' ⟨rfl, ⟨nd, rfl⟩⟩; refine ⟨_, rfl, ?_⟩; refine hK.out _ _ ⟨(blk_cell BK103.out 0).trans rfl, (blk_cell BK103.out 1).trans rfl, (blk_cell BK103.out 2).trans rfl, MK.out⟩ (fun hH => ?_); clear hK K; refine nz 22 ?_; refine oneZ 9 (some 28) (bs 22 4095) (o1 HT_) fun K hK => ?_; refine gz Try.func76 #[.bool (!(seenAt l0 x14_1)), .int .i64 5] ?_
         with_reducible refine (L_unless.calls (!(seenAt l0 x14_1)) 5 t106 _ A8.out).mono ?_
         rintro e w' ⟨rfl, ⟨nd, rfl⟩⟩; refine ⟨_, rfl, ?_⟩; refine hK.out _ _ ⟨(blk_cell BK103.out 0).trans rfl, (blk_cell BK103.out 1).trans rfl, (blk_cell BK103.out 2).trans rfl, MK.out⟩ (fun hH => ?_); clear hK K; refine nz 28 ?_; refine oneZ 12 (some 31) (bs 22 8191) (o1 HT_) fun K hK => ?_; refine gz Try.func78 #[.int .i64 ((rd_T42 l0 x14_1).f1), .int .i64 0, .int .i64 1000] ?_
         with_reducible refine (L_within.calls ((rd_T42 l0 x14_1).f1) 0 1000 true _ A9.out).mono ?_
         rintro e w' ⟨rfl, ⟨nd, rfl⟩⟩; refine ⟨_, rfl, ?_⟩; refine hK.out _ _ ⟨(blk_cell BK103.out 0).trans rfl, (blk_cell BK103.out 1).trans rfl, (blk_cell BK103.out 2).trans rfl, MK.out⟩ (fun hH => ?_); clear hK K; refine nz 31 ?_; refine pZ 13 (some 32) (bs 22 16383) HT_ ?_; refine pZ 14 (some 33) (bs 22 32767) HT_ ?_; refine takeZ 15 (some 34) (bs 22 65535) (tw HT_ HW_) hH ?_; refine oneZ 16 (some 35) (bs 22 131071) (o1 HT_) fun K hK => ?_; refine gz Try.func78 #[.int .i64 ((rd_T42 l0 x14_1).f2), .int .i64 0, .int .i64 1000] ?_
         with_reducible refine (L_within.calls ((rd_T42 l0 x14_1).f2) 0 1000 t108 _ A11.out).mono ?_
         rintro e w' ⟨rfl, ⟨nd, rfl⟩⟩; refine ⟨_, rfl, ?_⟩; refine hK.out _ _ ⟨(blk_cell BK103.out 0).trans rfl, (blk_cell BK103.out 1).trans rfl, (blk_cell BK103.out 2).trans rfl, MK.out⟩ (fun hH => ?_); clear hK K; refine nz 35 ?_; refine pZ 17 (some 36) (bs 22 262143) HT_ ?_; refine oneZ 18 (some 37) (bs 22 524287) (o1 HT_) fun K hK => ?_; refine gz Try.func76 #[.bool t108, .int .i64 2] ?_
         with_reducible refine (L_unless.calls t108 2 t109 _ A12.out).mono ?_
         rintro e w' ⟨rfl, ⟨nd, rfl⟩⟩; refine ⟨_, rfl, ?_⟩; refine hK.out _ _ ⟨(blk_cell BK103.out 0).trans rfl, (blk_cell BK103.out 1).trans rfl, (blk_cell BK103.out 2).trans rfl, MK.out⟩ (fun hH => ?_); clear hK K; refine nz 37 ?_; refine oneZ 19 (some 38) (bs 22 1048575) (o1 HT_) fun K hK => ?_; refine Kd.R_lit_step (Kd.int .i64) _ 24 ?hg (N := 38) ?hd (xs := ([t105, t106, t109] : List Int)) (inner := [.int .i64 t105, .int .i64 t106, .int .i64 t109]) (ok := fun _ => True) (okp := fun _ => True) ?hr ?hp (fun _ hk => hk) trivial (Below.refl _ _) (Nat.le_refl _) (by simp) ?_; (case hd => rfl); (case hg => rfl); (case hr => first | (go_simp; done) | (go_simp; rfl)); (case hp => exact (Reps.one (ki t105) (Reps.one (ki t106) (Reps.one (ki t109) (Reps.none _ _)))))
         intro v111 w29 ho30 hb hg_ hnew_; have m0_ := m0 (map_below (by (with_reducible repeat (first | refine map_drewN ?_ _ | refine map_drew ?_ | refine map_alloc ?_ _)); exact MK.out) hb); clear MK; have MK := m0_; clear m0_; clear hg_ hnew_
         (first | rw [← Ny110.out] at ho30 | (simp only [Int.reduceToNat] at ho30; rw [← Ny110.out] at ho30))
         have HO112 := m0 (Kd.R_lower ho30 (below_size bz)); replace BK103 := bb BK103 hb; replace HB := sb HB hb; clear hb ho30; obtain ⟨Ao31, co31, eo31⟩ := Kd.R_slice HO112.out; subst eo31; refine hK.out _ _ ⟨(blk_cell BK103.out 0).trans rfl, (blk_cell BK103.out 1).trans rfl, (blk_cell BK103.out 2).trans rfl, MK.out⟩ (fun hH => ?_); clear hK K; refine nz 38 ?_; refine oneZ 20 (some 39) (bs 22 2097151) (o1 HT_) fun K hK => ?_; refine gz Try.func75 #[.slice Ao31 y110.length co31] ?_
         with_reducible refine (L_first.calls k1 _ _ y110 t113 _ ?side1 ?side2 A13.out).mono ?_
         (case side1 => exact bc (Kd.R_reads' HO112.out).2.2)
         (case side2 => exact (Kd.R_reads' HO112.out).2.1)
         rintro e w' ⟨rfl, ⟨nd, rfl⟩⟩; refine ⟨_, rfl, ?_⟩; refine hK.out _ _ ⟨(blk_cell BK103.out 0).trans rfl, (blk_cell BK103.out 1).trans rfl, (blk_cell BK103.out 2).trans rfl, MK.out⟩ (fun hH => ?_); clear hK K; refine nz 39 ?_; refine pZ 21 (some 7) (bs 22 4194303) HT_ ?_; refine done_ (done_of HT_.out (by kernel_rfl)) ?_
         try go_wp2
         go_ret2
         exact ez
       ·replace c10 := Bool.eq_false_iff.mpr c10; subst c10; rw [if_neg (show ¬ (false = true) by decide)] at H; replace H := oa H; obtain ⟨t114, A32, H⟩ := H; (try dsimp only at H); obtain ⟨y115, hy115⟩ : ∃ y_ : List Int, y_ = (([t105, t106, t114] : List Int)) := ⟨_, rfl⟩; replace H : ((L_first.f k1 y115).bind fun t118 => (if t118 = 0 then (L_CheckTasks.l0 k1 l0 (l0.length : Int) (wrap64 (x14_1 + 1))) else (some (x14_1, t118)))) = some (r1, r2) := by first | (rw [hy115]; with_reducible exact H) | (have H2_ := (Option.bind_some _ _).symm.trans H; rw [hy115]; with_reducible exact H2_) | (have H2_ := (Option.bind_some _ _).symm.trans H; with_reducible exact H2_) | with_reducible exact H | (rw [hy115]; exact H) | exact H
        have Ny115 := m0 hy115; clear hy115; replace H := oa H; obtain ⟨t118, A33, H⟩ := H; (try dsimp only at H)
        by_cases c34 : t118 = 0
        ·rw [if_pos c34] at H; have c34b0 := beq_iff_eq.mpr c34; have c34b1 := bne_eq_false_iff_eq.mpr c34; clear c34; have H' := m0 H; clear H; have p102 : 0 ≤ (x14_1 : Int) := od; have q102 : x14_1 < (l0.length : Int) := od; obtain ⟨ad102, e102, hx102_0, hx102_1, hx102_2⟩ := at_T42 HR0.out x14_1 p102 q102
         cases e102
         replace hx102_0 := hc HB hx102_0; replace hx102_1 := hc HB hx102_1; replace hx102_2 := hc HB hx102_2; replace p102 := eq_true p102; replace q102 := eq_true q102
         try go_wp2_with (first | ((with_reducible refine ga 6 rfl ?_); refine be 6 42 #[.string (⟨#[]⟩ : ByteArray), .int .i64 0, .int .i64 0] ?_; intro gb103 hg w35 hbox hb; have GM103 := m0 (show w.heap.size ≠ gb103 from by rw [hg]; exact Nat.ne_of_lt (map_lt MK.out)); have m0_ := m0 (map_below (by (with_reducible repeat (first | refine map_drewN ?_ _ | refine map_drew ?_ | refine map_alloc ?_ _)); exact MK.out) hb); clear MK; have MK := m0_; clear m0_; have BK103 := m0 hbox; have GE103 := gw w hg; replace HB := sb HB hb; clear hb hbox hg; obtain ⟨_, _, _, _, _, _⟩ := b3 BK103))
         have n0_ : Aside0 ((((w35.setCell ⟨gb103, 0, none⟩ (.string ((rd_T42 l0 x14_1).f0))).setCell ⟨gb103, 1, none⟩ (.int .i64 ((rd_T42 l0 x14_1).f1))).setCell ⟨gb103, 2, none⟩ (.int .i64 ((rd_T42 l0 x14_1).f2))).heap[gb103]? = some (.cells #[.string ((rd_T42 l0 x14_1).f0), .int .i64 ((rd_T42 l0 x14_1).f1), .int .i64 ((rd_T42 l0 x14_1).f2)] 42 (0, 0))) := ⟨bq BK103.out⟩; have n1_ : Aside0 (Below w.heap.size w (((w35.setCell ⟨gb103, 0, none⟩ (.string ((rd_T42 l0 x14_1).f0))).setCell ⟨gb103, 1, none⟩ (.int .i64 ((rd_T42 l0 x14_1).f1))).setCell ⟨gb103, 2, none⟩ (.int .i64 ((rd_T42 l0 x14_1).f2)))) := ⟨bz⟩; (try clear BK103); (try clear HB); have m0_ : Aside0 (MapIs (((w35.setCell ⟨gb103, 0, none⟩ (.string ((rd_T42 l0 x14_1).f0))).setCell ⟨gb103, 1, none⟩ (.int .i64 ((rd_T42 l0 x14_1).f1))).setCell ⟨gb103, 2, none⟩ (.int .i64 ((rd_T42 l0 x14_1).f2))) w.heap.size (namesTo l0 x14_1)) := ⟨map_set (map_set (map_set MK.out GM103.out) GM103.out) GM103.out⟩; clear MK; generalize (((w35.setCell ⟨gb103, 0, none⟩ (.string ((rd_T42 l0 x14_1).f0))).setCell ⟨gb103, 1, none⟩ (.int .i64 ((rd_T42 l0 x14_1).f1))).setCell ⟨gb103, 2, none⟩ (.int .i64 ((rd_T42 l0 x14_1).f2))) = w37 at n0_ n1_ m0_ ⊢; have MK := m0 (map_drew m0_.out); clear m0_; have BK103 := n0_; have HB := n1_; clear n0_ n1_; replace BK103 := bd BK103; replace HB := sd HB; refine start_ (n := 22) (S := fun w' => w'.cell? ⟨gb103, 0, none⟩ = some (.string ((rd_T42 l0 x14_1).f0)) ∧ w'.cell? ⟨gb103, 1, none⟩ = some (.int .i64 ((rd_T42 l0 x14_1).f1)) ∧ w'.cell? ⟨gb103, 2, none⟩ = some (.int .i64 ((rd_T42 l0 x14_1).f2)) ∧ MapIs w' w.heap.size (namesTo l0 x14_1)) (ds := []) _ (by kernel_rfl) rfl rfl ⟨(blk_cell BK103.out 0).trans rfl, (blk_cell BK103.out 1).trans rfl, (blk_cell BK103.out 2).trans rfl, MK.out⟩ (fun hH => ?_); refine with_tabW L_CheckTasks.tab7 L_CheckTasks.bits7 (fun HT_ HW_ => ?_); generalize w37.drew = w38 at BK103 HB MK hH ⊢; refine pZ 0 (some 19) (bs 22 1) HT_ ?_; refine pZ 4 (some 23) (bs 22 17) HT_ ?_; refine pZ 5 (some 24) (bs 22 49) HT_ ?_; refine pZ 10 (some 29) (bs 22 1073) HT_ ?_; refine takeZ 1 (some 20) (bs 22 1075) (tw HT_ HW_) hH ?_; refine takeZ 6 (some 25) (bs 22 1139) (tw HT_ HW_) hH ?_; refine take_ (i := 7) (N := some 26) (v := ?_) (a' := ?_) (bs 22 1267) rfl rfl (tw HT_ HW_) (fun _ _ _ h => h) (Or.inl ⟨by rfl, ?_⟩) hH ?_ ?_; rotate_left
         ·rintro w' ⟨s0, s1, s2, s3⟩; have hl : (Instr.lookup 131 (.map (some w.heap.size)) (.string (rd_T42 l0 x14_1).f0) false).run Try.prog w' = .ok (.bool (seenAt l0 x14_1)) w' := map_look s3 (rd_T42 l0 x14_1).f0
          go_simp
          with_reducible rfl
         rotate_left
         ·exact pz
         refine pZ 8 (some 27) (bs 22 1523) HT_ ?_; refine takeZ 11 (some 30) (bs 22 3571) (tw HT_ HW_) hH ?_; refine oneZ 2 (some 21) (bs 22 3575) (o1 HT_) fun K hK => ?_; refine gz Try.func77 #[.string ((rd_T42 l0 x14_1).f0)] ?_
         with_reducible refine (L_isName.calls ((rd_T42 l0 x14_1).f0) t104 _ A6.out).mono ?_
         rintro e w39 ⟨rfl, hb⟩; have m0_ := m0 (map_below (by (with_reducible repeat (first | refine map_drewN ?_ _ | refine map_drew ?_ | refine map_alloc ?_ _)); exact MK.out) hb); clear MK; have MK := m0_; clear m0_; refine ⟨_, rfl, ?_⟩; replace BK103 := bb BK103 hb; replace HB := sb HB hb; (try clear hb); refine hK.out _ _ ⟨(blk_cell BK103.out 0).trans rfl, (blk_cell BK103.out 1).trans rfl, (blk_cell BK103.out 2).trans rfl, MK.out⟩ (fun hH => ?_); clear hK K; refine nz 21 ?_; refine oneZ 3 (some 22) (bs 22 3583) (o1 HT_) fun K hK => ?_; refine gz Try.func76 #[.bool t104, .int .i64 4] ?_
         with_reducible refine (L_unless.calls t104 4 t105 _ A7.out).mono ?_
         rintro e w' ⟨rfl, ⟨nd, rfl⟩⟩; refine ⟨_, rfl, ?_⟩; refine hK.out _ _ ⟨(blk_cell BK103.out 0).trans rfl, (blk_cell BK103.out 1).trans rfl, (blk_cell BK103.out 2).trans rfl, MK.out⟩ (fun hH => ?_); clear hK K; refine nz 22 ?_; refine oneZ 9 (some 28) (bs 22 4095) (o1 HT_) fun K hK => ?_; refine gz Try.func76 #[.bool (!(seenAt l0 x14_1)), .int .i64 5] ?_
         with_reducible refine (L_unless.calls (!(seenAt l0 x14_1)) 5 t106 _ A8.out).mono ?_
         rintro e w' ⟨rfl, ⟨nd, rfl⟩⟩; refine ⟨_, rfl, ?_⟩; refine hK.out _ _ ⟨(blk_cell BK103.out 0).trans rfl, (blk_cell BK103.out 1).trans rfl, (blk_cell BK103.out 2).trans rfl, MK.out⟩ (fun hH => ?_); clear hK K; refine nz 28 ?_; refine oneZ 12 (some 31) (bs 22 8191) (o1 HT_) fun K hK => ?_; refine gz Try.func78 #[.int .i64 ((rd_T42 l0 x14_1).f1), .int .i64 0, .int .i64 1000] ?_
         with_reducible refine (L_within.calls ((rd_T42 l0 x14_1).f1) 0 1000 false _ A9.out).mono ?_
         rintro e w' ⟨rfl, ⟨nd, rfl⟩⟩; refine ⟨_, rfl, ?_⟩; refine hK.out _ _ ⟨(blk_cell BK103.out 0).trans rfl, (blk_cell BK103.out 1).trans rfl, (blk_cell BK103.out 2).trans rfl, MK.out⟩ (fun hH => ?_); clear hK K; refine nz 31 ?_; refine pZ 13 (some 32) (bs 22 16383) HT_ ?_; refine pure_ (i := 14) (N := some 33) (v := undef) (a' := ?_) (bs 22 32767) rfl rfl (any_of HT_.out (by kernel_rfl)) (fun _ _ _ h => h) (Or.inr ⟨by rfl, rfl⟩) ?_ ?_; rotate_left
         ·exact pz
         refine pure_ (i := 15) (N := some 34) (v := undef) (a' := ?_) (bs 22 65535) rfl rfl (any_of HT_.out (by kernel_rfl)) (fun _ _ _ h => h) (Or.inr ⟨by rfl, rfl⟩) ?_ ?_; rotate_left
         ·exact pz
         refine pure_ (i := 16) (N := some 35) (v := undef) (a' := ?_) (bs 22 131071) rfl rfl (any_of HT_.out (by kernel_rfl)) (fun _ _ _ h => h) (Or.inr ⟨by rfl, rfl⟩) ?_ ?_; rotate_left
         ·exact pz
         refine pZ 17 (some 36) (bs 22 262143) HT_ ?_; refine oneZ 18 (some 37) (bs 22 524287) (o1 HT_) fun K hK => ?_; refine gz Try.func76 #[.bool false, .int .i64 2] ?_
         with_reducible refine (L_unless.calls false 2 t114 _ A32.out).mono ?_
         rintro e w' ⟨rfl, ⟨nd, rfl⟩⟩; refine ⟨_, rfl, ?_⟩; refine hK.out _ _ ⟨(blk_cell BK103.out 0).trans rfl, (blk_cell BK103.out 1).trans rfl, (blk_cell BK103.out 2).trans rfl, MK.out⟩ (fun hH => ?_); clear hK K; refine nz 37 ?_; refine oneZ 19 (some 38) (bs 22 1048575) (o1 HT_) fun K hK => ?_; refine Kd.R_lit_step (Kd.int .i64) _ 24 ?hg (N := 38) ?hd (xs := ([t105, t106, t114] : List Int)) (inner := [.int .i64 t105, .int .i64 t106, .int .i64 t114]) (ok := fun _ => True) (okp := fun _ => True) ?hr ?hp (fun _ hk => hk) trivial (Below.refl _ _) (Nat.le_refl _) (by simp) ?_; (case hd => rfl); (case hg => rfl); (case hr => first | (go_simp; done) | (go_simp; rfl)); (case hp => exact (Reps.one (ki t105) (Reps.one (ki t106) (Reps.one (ki t114) (Reps.none _ _)))))
         intro v116 w40 ho41 hb hg_ hnew_; have m0_ := m0 (map_below (by (with_reducible repeat (first | refine map_drewN ?_ _ | refine map_drew ?_ | refine map_alloc ?_ _)); exact MK.out) hb); clear MK; have MK := m0_; clear m0_; clear hg_ hnew_
         (first | rw [← Ny115.out] at ho41 | (simp only [Int.reduceToNat] at ho41; rw [← Ny115.out] at ho41))
         have HO117 := m0 (Kd.R_lower ho41 (below_size bz)); replace BK103 := bb BK103 hb; replace HB := sb HB hb; clear hb ho41; obtain ⟨Ao42, co42, eo42⟩ := Kd.R_slice HO117.out; subst eo42; refine hK.out _ _ ⟨(blk_cell BK103.out 0).trans rfl, (blk_cell BK103.out 1).trans rfl, (blk_cell BK103.out 2).trans rfl, MK.out⟩ (fun hH => ?_); clear hK K; refine nz 38 ?_; refine oneZ 20 (some 39) (bs 22 2097151) (o1 HT_) fun K hK => ?_; refine gz Try.func75 #[.slice Ao42 y115.length co42] ?_
         with_reducible refine (L_first.calls k1 _ _ y115 t118 _ ?side1 ?side2 A33.out).mono ?_
         (case side1 => exact bc (Kd.R_reads' HO117.out).2.2)
         (case side2 => exact (Kd.R_reads' HO117.out).2.1)
         rintro e w' ⟨rfl, ⟨nd, rfl⟩⟩; refine ⟨_, rfl, ?_⟩; refine hK.out _ _ ⟨(blk_cell BK103.out 0).trans rfl, (blk_cell BK103.out 1).trans rfl, (blk_cell BK103.out 2).trans rfl, MK.out⟩ (fun hH => ?_); clear hK K; refine nz 39 ?_; refine pZ 21 (some 7) (bs 22 4194303) HT_ ?_; refine done_ (done_of HT_.out (by kernel_rfl)) ?_; obtain ⟨_, _, _, _, _, _⟩ := b3 BK103; have hno := m0 (tasks_new A8.out A33.out c34b0 Ny115.out); have hup := m0 (namesTo_up (l := l0) (of_eq_true p102) (of_eq_true q102) HL10.out); obtain ⟨w41, hrun, hm41, hb41⟩ := map_put (map_drewN MK.out nd) (rd_T42 l0 x14_1).f0 hno.out; have n0_ := m0 (hup.out ▸ hm41); have n1_ := m0 ((pw_below_drewN HB.out nd).trans hb41); clear MK HB hm41 hb41; have MK := n0_; have HB := n1_; clear n0_ n1_
         go_wp2
         go_roundg k1
         case measure => have := HK1.out; omega
         case rel => exact ⟨(wrap64 (x14_1 + 1)), rz, H', ⟨by have := HK1.out; omega⟩, ⟨bz⟩, ⟨by (with_reducible repeat (first | refine map_drewN ?_ _ | refine map_drew ?_ | refine map_alloc ?_ _)); exact MK.out⟩⟩
        ·rw [if_neg c34] at H; have c34b0 := beq_eq_false_iff_ne.mpr c34; have c34b1 := bne_iff_ne.mpr c34; simp only [Option.some.injEq, Prod.mk.injEq] at H; obtain ⟨rfl, rfl⟩ := H; have p102 : 0 ≤ (x14_1 : Int) := od; have q102 : x14_1 < (l0.length : Int) := od; obtain ⟨ad102, e102, hx102_0, hx102_1, hx102_2⟩ := at_T42 HR0.out x14_1 p102 q102
         cases e102
         replace hx102_0 := hc HB hx102_0; replace hx102_1 := hc HB hx102_1; replace hx102_2 := hc HB hx102_2; replace p102 := eq_true p102; replace q102 := eq_true q102
         try go_wp2_with (first | ((with_reducible refine ga 6 rfl ?_); refine be 6 42 #[.string (⟨#[]⟩ : ByteArray), .int .i64 0, .int .i64 0] ?_; intro gb103 hg w44 hbox hb; have GM103 := m0 (show w.heap.size ≠ gb103 from by rw [hg]; exact Nat.ne_of_lt (map_lt MK.out)); have m0_ := m0 (map_below (by (with_reducible repeat (first | refine map_drewN ?_ _ | refine map_drew ?_ | refine map_alloc ?_ _)); exact MK.out) hb); clear MK; have MK := m0_; clear m0_; have BK103 := m0 hbox; have GE103 := gw w hg; replace HB := sb HB hb; clear hb hbox hg; obtain ⟨_, _, _, _, _, _⟩ := b3 BK103))
         have n0_ : Aside0 ((((w44.setCell ⟨gb103, 0, none⟩ (.string ((rd_T42 l0 x14_1).f0))).setCell ⟨gb103, 1, none⟩ (.int .i64 ((rd_T42 l0 x14_1).f1))).setCell ⟨gb103, 2, none⟩ (.int .i64 ((rd_T42 l0 x14_1).f2))).heap[gb103]? = some (.cells #[.string ((rd_T42 l0 x14_1).f0), .int .i64 ((rd_T42 l0 x14_1).f1), .int .i64 ((rd_T42 l0 x14_1).f2)] 42 (0, 0))) := ⟨bq BK103.out⟩; have n1_ : Aside0 (Below w.heap.size w (((w44.setCell ⟨gb103, 0, none⟩ (.string ((rd_T42 l0 x14_1).f0))).setCell ⟨gb103, 1, none⟩ (.int .i64 ((rd_T42 l0 x14_1).f1))).setCell ⟨gb103, 2, none⟩ (.int .i64 ((rd_T42 l0 x14_1).f2)))) := ⟨bz⟩; (try clear BK103); (try clear HB); have m0_ : Aside0 (MapIs (((w44.setCell ⟨gb103, 0, none⟩ (.string ((rd_T42 l0 x14_1).f0))).setCell ⟨gb103, 1, none⟩ (.int .i64 ((rd_T42 l0 x14_1).f1))).setCell ⟨gb103, 2, none⟩ (.int .i64 ((rd_T42 l0 x14_1).f2))) w.heap.size (namesTo l0 x14_1)) := ⟨map_set (map_set (map_set MK.out GM103.out) GM103.out) GM103.out⟩; clear MK; generalize (((w44.setCell ⟨gb103, 0, none⟩ (.string ((rd_T42 l0 x14_1).f0))).setCell ⟨gb103, 1, none⟩ (.int .i64 ((rd_T42 l0 x14_1).f1))).setCell ⟨gb103, 2, none⟩ (.int .i64 ((rd_T42 l0 x14_1).f2))) = w46 at n0_ n1_ m0_ ⊢; have MK := m0 (map_drew m0_.out); clear m0_; have BK103 := n0_; have HB := n1_; clear n0_ n1_; replace BK103 := bd BK103; replace HB := sd HB; refine start_ (n := 22) (S := fun w' => w'.cell? ⟨gb103, 0, none⟩ = some (.string ((rd_T42 l0 x14_1).f0)) ∧ w'.cell? ⟨gb103, 1, none⟩ = some (.int .i64 ((rd_T42 l0 x14_1).f1)) ∧ w'.cell? ⟨gb103, 2, none⟩ = some (.int .i64 ((rd_T42 l0 x14_1).f2)) ∧ MapIs w' w.heap.size (namesTo l0 x14_1)) (ds := []) _ (by kernel_rfl) rfl rfl ⟨(blk_cell BK103.out 0).trans rfl, (blk_cell BK103.out 1).trans rfl, (blk_cell BK103.out 2).trans rfl, MK.out⟩ (fun hH => ?_); refine with_tabW L_CheckTasks.tab7 L_CheckTasks.bits7 (fun HT_ HW_ => ?_); generalize w46.drew = w47 at BK103 HB MK hH ⊢; refine pZ 0 (some 19) (bs 22 1) HT_ ?_; refine pZ 4 (some 23) (bs 22 17) HT_ ?_; refine pZ 5 (some 24) (bs 22 49) HT_ ?_; refine pZ 10 (some 29) (bs 22 1073) HT_ ?_; refine takeZ 1 (some 20) (bs 22 1075) (tw HT_ HW_) hH ?_; refine takeZ 6 (some 25) (bs 22 1139) (tw HT_ HW_) hH ?_; refine take_ (i := 7) (N := some 26) (v := ?_) (a' := ?_) (bs 22 1267) rfl rfl (tw HT_ HW_) (fun _ _ _ h => h) (Or.inl ⟨by rfl, ?_⟩) hH ?_ ?_; rotate_left
         ·rintro w' ⟨s0, s1, s2, s3⟩; have hl : (Instr.lookup 131 (.map (some w.heap.size)) (.string (rd_T42 l0 x14_1).f0) false).run Try.prog w' = .ok (.bool (seenAt l0 x14_1)) w' := map_look s3 (rd_T42 l0 x14_1).f0
          go_simp
          with_reducible rfl
         rotate_left
         ·exact pz
         refine pZ 8 (some 27) (bs 22 1523) HT_ ?_; refine takeZ 11 (some 30) (bs 22 3571) (tw HT_ HW_) hH ?_; refine oneZ 2 (some 21) (bs 22 3575) (o1 HT_) fun K hK => ?_; refine gz Try.func77 #[.string ((rd_T42 l0 x14_1).f0)] ?_
         with_reducible refine (L_isName.calls ((rd_T42 l0 x14_1).f0) t104 _ A6.out).mono ?_
         rintro e w48 ⟨rfl, hb⟩; have m0_ := m0 (map_below (by (with_reducible repeat (first | refine map_drewN ?_ _ | refine map_drew ?_ | refine map_alloc ?_ _)); exact MK.out) hb); clear MK; have MK := m0_; clear m0_; refine ⟨_, rfl, ?_⟩; replace BK103 := bb BK103 hb; replace HB := sb HB hb; (try clear hb); refine hK.out _ _ ⟨(blk_cell BK103.out 0).trans rfl, (blk_cell BK103.out 1).trans rfl, (blk_cell BK103.out 2).trans rfl, MK.out⟩ (fun hH => ?_); clear hK K; refine nz 21 ?_; refine oneZ 3 (some 22) (bs 22 3583) (o1 HT_) fun K hK => ?_; refine gz Try.func76 #[.bool t104, .int .i64 4] ?_
         with_reducible refine (L_unless.calls t104 4 t105 _ A7.out).mono ?_
         rintro e w' ⟨rfl, ⟨nd, rfl⟩⟩; refine ⟨_, rfl, ?_⟩; refine hK.out _ _ ⟨(blk_cell BK103.out 0).trans rfl, (blk_cell BK103.out 1).trans rfl, (blk_cell BK103.out 2).trans rfl, MK.out⟩ (fun hH => ?_); clear hK K; refine nz 22 ?_; refine oneZ 9 (some 28) (bs 22 4095) (o1 HT_) fun K hK => ?_; refine gz Try.func76 #[.bool (!(seenAt l0 x14_1)), .int .i64 5] ?_
         with_reducible refine (L_unless.calls (!(seenAt l0 x14_1)) 5 t106 _ A8.out).mono ?_
         rintro e w' ⟨rfl, ⟨nd, rfl⟩⟩; refine ⟨_, rfl, ?_⟩; refine hK.out _ _ ⟨(blk_cell BK103.out 0).trans rfl, (blk_cell BK103.out 1).trans rfl, (blk_cell BK103.out 2).trans rfl, MK.out⟩ (fun hH => ?_); clear hK K; refine nz 28 ?_; refine oneZ 12 (some 31) (bs 22 8191) (o1 HT_) fun K hK => ?_; refine gz Try.func78 #[.int .i64 ((rd_T42 l0 x14_1).f1), .int .i64 0, .int .i64 1000] ?_
         with_reducible refine (L_within.calls ((rd_T42 l0 x14_1).f1) 0 1000 false _ A9.out).mono ?_
         rintro e w' ⟨rfl, ⟨nd, rfl⟩⟩; refine ⟨_, rfl, ?_⟩; refine hK.out _ _ ⟨(blk_cell BK103.out 0).trans rfl, (blk_cell BK103.out 1).trans rfl, (blk_cell BK103.out 2).trans rfl, MK.out⟩ (fun hH => ?_); clear hK K; refine nz 31 ?_; refine pZ 13 (some 32) (bs 22 16383) HT_ ?_; refine pure_ (i := 14) (N := some 33) (v := undef) (a' := ?_) (bs 22 32767) rfl rfl (any_of HT_.out (by kernel_rfl)) (fun _ _ _ h => h) (Or.inr ⟨by rfl, rfl⟩) ?_ ?_; rotate_left
         ·exact pz
         refine pure_ (i := 15) (N := some 34) (v := undef) (a' := ?_) (bs 22 65535) rfl rfl (any_of HT_.out (by kernel_rfl)) (fun _ _ _ h => h) (Or.inr ⟨by rfl, rfl⟩) ?_ ?_; rotate_left
         ·exact pz
         refine pure_ (i := 16) (N := some 35) (v := undef) (a' := ?_) (bs 22 131071) rfl rfl (any_of HT_.out (by kernel_rfl)) (fun _ _ _ h => h) (Or.inr ⟨by rfl, rfl⟩) ?_ ?_; rotate_left
         ·exact pz
         refine pZ 17 (some 36) (bs 22 262143) HT_ ?_; refine oneZ 18 (some 37) (bs 22 524287) (o1 HT_) fun K hK => ?_; refine gz Try.func76 #[.bool false, .int .i64 2] ?_
         with_reducible refine (L_unless.calls false 2 t114 _ A32.out).mono ?_
         rintro e w' ⟨rfl, ⟨nd, rfl⟩⟩; refine ⟨_, rfl, ?_⟩; refine hK.out _ _ ⟨(blk_cell BK103.out 0).trans rfl, (blk_cell BK103.out 1).trans rfl, (blk_cell BK103.out 2).trans rfl, MK.out⟩ (fun hH => ?_); clear hK K; refine nz 37 ?_; refine oneZ 19 (some 38) (bs 22 1048575) (o1 HT_) fun K hK => ?_; refine Kd.R_lit_step (Kd.int .i64) _ 24 ?hg (N := 38) ?hd (xs := ([t105, t106, t114] : List Int)) (inner := [.int .i64 t105, .int .i64 t106, .int .i64 t114]) (ok := fun _ => True) (okp := fun _ => True) ?hr ?hp (fun _ hk => hk) trivial (Below.refl _ _) (Nat.le_refl _) (by simp) ?_; (case hd => rfl); (case hg => rfl); (case hr => first | (go_simp; done) | (go_simp; rfl)); (case hp => exact (Reps.one (ki t105) (Reps.one (ki t106) (Reps.one (ki t114) (Reps.none _ _)))))
         intro v116 w49 ho50 hb hg_ hnew_; have m0_ := m0 (map_below (by (with_reducible repeat (first | refine map_drewN ?_ _ | refine map_drew ?_ | refine map_alloc ?_ _)); exact MK.out) hb); clear MK; have MK := m0_; clear m0_; clear hg_ hnew_
         (first | rw [← Ny115.out] at ho50 | (simp only [Int.reduceToNat] at ho50; rw [← Ny115.out] at ho50))
         have HO117 := m0 (Kd.R_lower ho50 (below_size bz)); replace BK103 := bb BK103 hb; replace HB := sb HB hb; clear hb ho50; obtain ⟨Ao51, co51, eo51⟩ := Kd.R_slice HO117.out; subst eo51; refine hK.out _ _ ⟨(blk_cell BK103.out 0).trans rfl, (blk_cell BK103.out 1).trans rfl, (blk_cell BK103.out 2).trans rfl, MK.out⟩ (fun hH => ?_); clear hK K; refine nz 38 ?_; refine oneZ 20 (some 39) (bs 22 2097151) (o1 HT_) fun K hK => ?_; refine gz Try.func75 #[.slice Ao51 y115.length co51] ?_
         with_reducible refine (L_first.calls k1 _ _ y115 t118 _ ?side1 ?side2 A33.out).mono ?_
         (case side1 => exact bc (Kd.R_reads' HO117.out).2.2)
         (case side2 => exact (Kd.R_reads' HO117.out).2.1)
         rintro e w' ⟨rfl, ⟨nd, rfl⟩⟩; refine ⟨_, rfl, ?_⟩; refine hK.out _ _ ⟨(blk_cell BK103.out 0).trans rfl, (blk_cell BK103.out 1).trans rfl, (blk_cell BK103.out 2).trans rfl, MK.out⟩ (fun hH => ?_); clear hK K; refine nz 39 ?_; refine pZ 21 (some 7) (bs 22 4194303) HT_ ?_; refine done_ (done_of HT_.out (by kernel_rfl)) ?_
         try go_wp2
         go_ret2
         exact ez
      ·rw [if_neg c5] at H; exact absurd H (by simp)
     ·rw [if_neg c4] at H; exact absurd H (by simp)
    ·rw [if_neg c3] at H; have c3b0 := decide_eq_false c3; clear c3; simp only [Option.some.injEq, Prod.mk.injEq] at H; obtain ⟨rfl, rfl⟩ := H
     go_wp2
     go_ret2
     exact ez
end
section
def slices_stableCmpFunc_int.ren : Go.Shelf.Ren := ⟨fun | 20 => 170 | n => n, fun | 0 => 0 | 3 => 3 | 4 => 4 | 22 => 28 | 24 => 3 | 25 => 135 | n => n, fun | n => n⟩
theorem slices_stableCmpFunc_int.lays : SlLaysF.n20 Try.prog slices_stableCmpFunc_int.ren where
 mixed := by kernel_rfl
 f20 := ⟨Try.f170.name, by kernel_rfl, Try.func170.trans (congrArg some (by kernel_rfl))⟩
 t0 := Try.underlying0
 a0 := Try.isAgg0
 z0 := Try.sizeOf0
 v0 := Try.zeroValue0
 t3 := Try.underlying3
 a3 := Try.isAgg3
 z3 := Try.sizeOf3
 v3 := Try.zeroValue3
 t4 := Try.underlying4
 a4 := Try.isAgg4
 z4 := Try.sizeOf4
 v4 := Try.zeroValue4
 t22 := Try.underlying28
 a22 := Try.isAgg28
 z22 := Try.sizeOf28
 v22 := Try.zeroValue28
 a24 := Try.isAgg3
 z24 := Try.sizeOf3
 t25 := Try.underlying135
 a25 := Try.isAgg135
 z25 := Try.sizeOf135
 v25 := Try.zeroValue135
open Go.Sort in
theorem slices_stableCmpFunc_int.own {α : Type} [Inhabited α] (enc : α → Value) (hO : OneCell enc) (cf : α → α → Int) (g : Nat) (cb : Array Value) (blk off cap : Nat) (d : Array α) (w : World)
  (eg : ∀ args w, (callFunc g args).run Try.prog w = .ok (.enter g args) w) (hcmp : CmpReads Try.prog g cb enc cf blk off d.size w) (hH : Holds enc w blk off d) (h20 : d.size < 20) :
  Calls Try.prog 147 #[.slice (some ⟨blk, off, none⟩) d.size cap, .int .i64 d.size, .func (.func g) #[] cb] w fun e w' => e = .returned (.tuple #[]) ∧ ∃ n, w' = (putRow enc w blk off (Sort.insertionSort (ltOf cf) d 0 d.size)).drewN n := by
 have hi := fun W (hc : CmpReads Try.prog g cb enc cf blk off d.size W) (hh : Holds enc W blk off d) => Any.insertionSortCmpFunc_one slices_stableCmpFunc_int.lays enc hO cf g cb blk off cap 0 d.size d W eg hc hh (Nat.zero_le _) (Nat.le_refl _) (by omega); have hi0 := m0 (hi w hcmp hH); generalize (Sort.insertionSort (ltOf cf) d 0 d.size) = r at hi0 ⊢; clear hH hcmp hi; have d1 : decide ((20 : Int) ≤ (d.size : Int)) = false := by simp; omega
 have d2 : decide ((20 : Int) < (d.size : Int)) = false := by simp; omega
 go_enter Try.func147, Try.ntmps147
 go_wp2
 go_loopg [7, 8] 0 (fun gg s7 s8 wr => s7 = .int .i64 0 ∧ s8 = .int .i64 20 ∧ wr = w)
 case atStart => exact ⟨rfl, rfl, rfl⟩
 case round =>
  obtain ⟨rfl, rfl, rfl⟩ := hrel
  go_wp2_with (first | (go_at_call 170; refine hi0.out.mono ?_; rintro e w' ⟨rfl, n, rfl⟩))
  generalize hwp : putRow enc wr blk off r = wp
  go_loopg [6] 0 (fun gg s6 wq => s6 = .int .i64 20 ∧ wq = wp.drewN n)
  case atStart => exact ⟨rfl, rfl⟩
  case round =>
   obtain ⟨rfl, rfl⟩ := hrel
   go_wp2
   go_end0
   exact ⟨rfl, n, by rw [hwp]⟩
theorem slices_stableCmpFunc_int.ins0 (p : Option Addr) (cap : Nat) (fv : Value) (w : World) :
  Calls Try.prog 170 #[.slice p 0 cap, .int .i64 0, .int .i64 0, fv] w fun e w' => e = .returned (.tuple #[]) ∧ ∃ n, w' = w.drewN n := by
 go_enter Try.func170, Try.ntmps170
 go_wp2
 refine wp_loop_rounds 1 ?_; rw [rounds_succ]
 go_wp2
 go_end0
 exact ⟨rfl, 0, rfl⟩
theorem slices_stableCmpFunc_int.own0 (p : Option Addr) (cap : Nat) (fv : Value) (w : World) : Calls Try.prog 147 #[.slice p 0 cap, .int .i64 0, fv] w fun e w' => e = .returned (.tuple #[]) ∧ ∃ n, w' = w.drewN n := by
 have hi0 := m0 (slices_stableCmpFunc_int.ins0 p cap fv w); go_enter Try.func147, Try.ntmps147
 go_wp2
 go_loopg [7, 8] 0 (fun gg s7 s8 wr => s7 = .int .i64 0 ∧ s8 = .int .i64 20 ∧ wr = w)
 case atStart => exact ⟨rfl, rfl, rfl⟩
 case round =>
  obtain ⟨rfl, rfl, rfl⟩ := hrel
  go_wp2_with (first | (go_at_call 170; refine hi0.out.mono ?_; rintro e w' ⟨rfl, n, rfl⟩))
  go_loopg [6] 0 (fun gg s6 wq => s6 = .int .i64 20 ∧ wq = wr.drewN n)
  case atStart => exact ⟨rfl, rfl⟩
  case round =>
   obtain ⟨rfl, rfl⟩ := hrel
   go_wp2
   go_end0
   exact ⟨rfl, n, rfl⟩
end
section
open Go.Sort in
theorem slices_SortStableFunc_int_int.own {α : Type} [Inhabited α] (enc : α → Value) (hO : OneCell enc) (cf : α → α → Int) (g : Nat) (cb : Array Value) (blk off cap : Nat) (d : Array α) (w : World)
  (eg : ∀ args w, (callFunc g args).run Try.prog w = .ok (.enter g args) w) (hcmp : CmpReads Try.prog g cb enc cf blk off d.size w) (hH : Holds enc w blk off d) (h20 : d.size < 20) :
  Calls Try.prog 128 #[.slice (some ⟨blk, off, none⟩) d.size cap, .func (.func g) #[] cb] w fun e w' => e = .returned (.tuple #[]) ∧ ∃ n, w' = (putRow enc w blk off (Sort.insertionSort (ltOf cf) d 0 d.size)).drewN n := by
 have hi0 := m0 (slices_stableCmpFunc_int.own enc hO cf g cb blk off cap d w eg hcmp hH h20); generalize (Sort.insertionSort (ltOf cf) d 0 d.size) = r at hi0 ⊢; clear hH hcmp; go_enter Try.func128, Try.ntmps128
 go_wp2_with (first | (go_at_call 147; refine hi0.out.mono ?_; rintro e w' ⟨rfl, n, rfl⟩))
 go_end0
 exact ⟨rfl, n, rfl⟩
theorem slices_SortStableFunc_int_int.own0 (p : Option Addr) (cap : Nat) (fv : Value) (w : World) : Calls Try.prog 128 #[.slice p 0 cap, fv] w fun e w' => e = .returned (.tuple #[]) ∧ ∃ n, w' = w.drewN n := by
 have hi0 := m0 (slices_stableCmpFunc_int.own0 p cap fv w); go_enter Try.func128, Try.ntmps128
 go_wp2_with (first | (go_at_call 147; refine hi0.out.mono ?_; rintro e w' ⟨rfl, n, rfl⟩))
 go_end0
 exact ⟨rfl, n, rfl⟩
end
end Go.Proofs.Ytibhfahbabgbaaa.A
