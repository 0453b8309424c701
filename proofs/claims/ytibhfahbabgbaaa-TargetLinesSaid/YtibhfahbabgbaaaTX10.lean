/- Walks of the program's functions (printed, made shorter), each with what it computes. -/
import Derived.Sort.OwnSortedInts
import Derived.Test.YtibhfahbabgbaaaTX09
namespace Go.Proofs.Ytibhfahbabgbaaa.A
set_option maxHeartbeats 8000000
set_option maxRecDepth 100000
open Go.RowKit Go.Proofs.YtibhfahbabgbaaaW.PrintWords Go.Proofs.YtibhfahbabgbaaaW.PrintLast Go.Proofs.YtibhfahbabgbaaaW.PrintMore
attribute [local go_sem] max2_int min2_int max_two min_two max_three min_three max_four min_four
set_option linter.unusedVariables false
set_option linter.unusedSimpArgs false
section
open Go.Sort Go.Shelf
abbrev Ix (l : List S42) : Type := { x : Int // 0 ≤ x ∧ x < (l.length : Int) }
def ixEnc {l : List S42} (i : Ix l) : Value := .int .i64 i.1
def ix0 {l : List S42} (h : 0 < l.length) : Ix l := ⟨0, by omega, by omega⟩
def dueCmp (l : List S42) (i k : Ix l) : Int := wrap64 ((rd_T42 l i.1).f1 - (rd_T42 l k.1).f1)
def ixsOf (l : List S42) (xs : List Int) (h : ∀ x ∈ xs, 0 ≤ x ∧ x < (l.length : Int)) : List (Ix l) := xs.pmap (fun x hx => ⟨x, hx⟩) h
def sortIx (l : List S42) (hl : 0 < l.length) (xs : List (Ix l)) : List Int := letI : Inhabited (Ix l) := ⟨ix0 hl⟩; (Go.Sort.insertionSort (ltOf (dueCmp l)) xs.toArray 0 xs.toArray.size).toList.map (·.1)
def queueSort (l : List S42) (xs : List Int) : Option (List Int) :=
 if xs = [] then some []
 else if h : ∀ x ∈ xs, 0 ≤ x ∧ x < (l.length : Int) then if hl : 0 < l.length then if xs.length < 20 then some (sortIx l hl (ixsOf l xs h)) else none else none else none
theorem queue_less {l : List S42} {B : Nat} {ad : Addr} {c0 : Nat} (i k : Ix l) (W : World) (hb : W.cell? ⟨B, 0, none⟩ = some (.slice (some ad) l.length c0))
  (hi : W.cell? ⟨(ad.add (i.1.toNat * 3)).block, (ad.add (i.1.toNat * 3)).off + 1, none⟩ = some (.int .i64 (rd_T42 l i.1).f1)) (hk : W.cell? ⟨(ad.add (k.1.toNat * 3)).block, (ad.add (k.1.toNat * 3)).off + 1, none⟩ = some (.int .i64 (rd_T42 l k.1).f1)) :
  Calls Try.prog 129 #[ixEnc i, ixEnc k, .pointer (some ⟨B, 0, none⟩)] W fun e w' => e = .returned (.int .i64 (dueCmp l i k)) ∧ ∃ q, w' = W.drewN q := by
 obtain ⟨i, hi0, hi1⟩ := i; obtain ⟨k, hk0, hk1⟩ := k; simp only [ixEnc, dueCmp] at hi hk ⊢; have p1 := eq_true hi0; have p2 := eq_true hi1; have p3 := eq_true hk0; have p4 := eq_true hk1; have hu42 := Try.underlying42; clear hi0 hi1 hk0 hk1; generalize (rd_T42 l i).f1 = di at hi ⊢; generalize (rd_T42 l k).f1 = dk at hk ⊢; go_enter Try.func129, Try.ntmps129
 go_wp2
 go_quiet (fail)
 go_wp2
 go_ret
 exact ⟨rfl, nq, rfl⟩
theorem ixs_val {l : List S42} {xs : List Int} (h : ∀ x ∈ xs, 0 ≤ x ∧ x < (l.length : Int)) : (ixsOf l xs h).map (·.1) = xs := by
 unfold ixsOf; rw [List.map_pmap]
 simp
theorem putRow_ix {l : List S42} [Inhabited (Ix l)] (w : World) (b off : Nat) (d : Array (Ix l)) : putRow ixEnc w b off d = putRow (Value.int .i64) w b off (d.map (·.1)) := by
 unfold putRow
 congr 1
 funext c
 unfold putCells
 congr 1
 funext k x
 simp only [Array.size_map]
 split
 ·rename_i hk
  have : k - off < d.size := by omega
  rw [getElem!_pos d _ this, getElem!_pos (d.map (·.1)) _ (by simpa using this)]
  simp [ixEnc]
 ·rfl
theorem insInner_size {α : Type} [Inhabited α] (lt : α → α → Bool) (a : Nat) : ∀ (j : Nat) (d : Array α), (Go.Sort.insInner lt a j d).size = d.size
 | 0, d => rfl
 | j + 1, d => by
  unfold Go.Sort.insInner
  split
  ·rw [insInner_size lt a j]; simp [Go.Sort.swp]
  ·rfl
theorem insOuter_size {α : Type} [Inhabited α] (lt : α → α → Bool) (a b : Nat) : ∀ (n i : Nat) (d : Array α), b - i ≤ n → (Go.Sort.insOuter lt a b i d).size = d.size
 | 0, i, d, h => by unfold Go.Sort.insOuter; rw [if_neg (by omega)]
 | n + 1, i, d, h => by
  unfold Go.Sort.insOuter
  split
  ·rw [insOuter_size lt a b n (i + 1) _ (by omega), insInner_size]
  ·rfl
theorem insSort_size {α : Type} [Inhabited α] (lt : α → α → Bool) (a b : Nat) (d : Array α) : (Go.Sort.insertionSort lt d a b).size = d.size := insOuter_size lt a b _ _ _ (Nat.le_refl _)
theorem queue_sort_calls (P0_ : Nat → Prop) (u : Value) (l1 : List Int) (A0 : Option Addr) (c0 : Nat) (l0 : List S42) (B : Nat) (r : List Int) (w0 w : World) (hB : Below w0.heap.size w0 w) (ho0 : Kd.R (Kd.int .i64) 3 w w0.heap.size P0_ u l1)
  (hx : Kd.C k42 w0 A0 l0.length l0) (hbx : w.heap[B]? = some (.cells #[.slice A0 l0.length c0] 22 (0, 0))) (h : queueSort l0 l1 = some r) :
  Calls Try.prog 128 #[u, .func (.func 129) #[] #[.pointer (some ⟨B, 0, none⟩)]] w fun e w' => e = .returned (.tuple #[]) ∧ Kd.R (Kd.int .i64) 3 w' w0.heap.size (fun k_ => (P0_ k_ ∨ w.heap.size ≤ k_)) u r ∧ Below w0.heap.size w0 w' ∧ Kept w w' (fun k_ => P0_ k_) := by
 have hne := Kd.R_ne ho0 hbx (by decide); unfold queueSort at h; have hok := ho0.1; have ho := Kd.own_of_R ho0
 by_cases hnil : l1 = []
 ·rw [if_pos hnil] at h; obtain rfl := Option.some.inj h; subst hnil; obtain ⟨hi, ⟨rfl, h0⟩ | ⟨g, cap, cur, rfl, hbase, hb, h1, h2, h3, h4⟩⟩ := ho
  ·refine (slices_SortStableFunc_int_int.own0 none 0 _ w).mono ?_; rintro e w' ⟨rfl, q, rfl⟩; exact ⟨rfl, Kd.R_nil _ _ _ _ _, pw_below_drewN hB q, Kept.drewN (Kept.refl _ _) q⟩
  ·refine (slices_SortStableFunc_int_int.own0 (some ⟨g, 0, none⟩) cap _ w).mono ?_; rintro e w' ⟨rfl, q, rfl⟩; exact ⟨rfl, Kd.R_drewN (Kd.R_mono ho0 (fun k hk => .inl hk)) q, pw_below_drewN hB q, Kept.drewN (Kept.refl _ _) q⟩
 ·rw [if_neg hnil] at h
  by_cases hall : ∀ x ∈ l1, 0 ≤ x ∧ x < (l0.length : Int)
  case neg => rw [dif_neg hall] at h; cases h
  rw [dif_pos hall] at h
  by_cases hl : 0 < l0.length
  case neg => rw [dif_neg hl] at h; cases h
  rw [dif_pos hl] at h
  by_cases h20 : l1.length < 20
  case neg => rw [if_neg h20] at h; cases h
  rw [if_pos h20] at h; obtain rfl := Option.some.inj h
  letI : Inhabited (Ix l0) := ⟨ix0 hl⟩
  obtain ⟨hi, ⟨rfl, h0⟩ | ⟨g, cap, cur, rfl, hbase, hb, h1, h2, h3, h4⟩⟩ := ho
  ·exact absurd (List.length_eq_zero_iff.1 h0) hnil
  have hmap := ixs_val hall; have hsz : (ixsOf l0 l1 hall).toArray.size = l1.length := by rw [List.size_toArray, ← List.length_map (f := fun i : Ix l0 => i.1), hmap]
  have hg : g < w.heap.size := (Array.getElem?_eq_some_iff.1 hb).1; have hgB : g ≠ B := fun e => hne (by rw [e]; rfl); have hB1 : B < w.heap.size := (Array.getElem?_eq_some_iff.1 hbx).1; have h4' : cur.toList.take l1.length = l1.map (Value.int .i64) := by simpa [encs] using h4
  have hH : Holds (ixEnc (l := l0)) w g 0 (ixsOf l0 l1 hall).toArray := by
   intro j hj; have hj' : j < l1.length := by omega
   have := holds_of_blockI hb h4' j (by simpa using hj'); rw [getElem!_pos _ j hj]; rw [getElem!_pos _ j (by simpa using hj')] at this; have he : ((ixsOf l0 l1 hall)[j]'(by simpa using hj)).1 = l1[j] := by
    have := congrArg (fun z : List Int => z[j]?) hmap; simp only [List.getElem?_map] at this; rw [List.getElem?_eq_getElem hj'] at this; rw [List.getElem?_eq_getElem (by simpa using hj)] at this
    simpa using this
   simpa [ixEnc, he] using this
  have hcmp : CmpReads Try.prog 129 #[.pointer (some ⟨B, 0, none⟩)] (ixEnc (l := l0)) (dueCmp l0) g 0 (ixsOf l0 l1 hall).toArray.size w := by
   intro m os dk hdk x y; obtain ⟨ad, e, _, c1, _⟩ := at_T42 hx x.1 x.2.1 x.2.2
   cases e
   obtain ⟨ad', e, _, c2, _⟩ := at_T42 hx y.1 y.2.1 y.2.2
   cases e
   have ce : ∀ a : Addr, a.block ≠ g → a.block < w.heap.size → (sortWorld (ixEnc (l := l0)) w g 0 m dk os).cell? a = w.cell? a := by
    intro a ha hlt; unfold sortWorld; rw [cell?_grow _ _ _ (by simpa using hlt), cell?_putRow_other _ _ _ _ _ _ (Or.inl ha)]
    rfl
   have d1 := (hB.cell (World.block_lt_of_cell? w0 _ c1)).trans c1; have d2 := (hB.cell (World.block_lt_of_cell? w0 _ c2)).trans c2; refine queue_less x y _ ((ce _ (fun e => hgB e.symm) hB1).trans ((blk_cell hbx 0).trans rfl)) ((ce _ ?_ (World.block_lt_of_cell? w _ d1)).trans d1) ((ce _ ?_ (World.block_lt_of_cell? w _ d2)).trans d2)
   ·exact fun e => absurd (World.block_lt_of_cell? w0 _ c1) (by rw [e]; omega)
   ·exact fun e => absurd (World.block_lt_of_cell? w0 _ c2) (by rw [e]; omega)
  have hS := slices_SortStableFunc_int_int.own (ixEnc (l := l0)) (fun _ => rfl) (dueCmp l0) 129 #[.pointer (some ⟨B, 0, none⟩)] g 0 cap (ixsOf l0 l1 hall).toArray w (enters_of Try.func129 (by kernel_rfl) rfl) hcmp hH (by rw [hsz]; exact h20); rw [putRow_ix] at hS; have hts : ((Go.Sort.insertionSort (ltOf (dueCmp l0)) (ixsOf l0 l1 hall).toArray 0 (ixsOf l0 l1 hall).toArray.size).map (·.1)) = (sortIx l0 hl (ixsOf l0 l1 hall)).toArray := by
   unfold sortIx; rw [← Array.toList_map]
  rw [hts, hsz] at hS; have hlen : (sortIx l0 hl (ixsOf l0 l1 hall)).length = l1.length := by
   unfold sortIx; rw [List.length_map, Array.length_toList, insSort_size, hsz]
  generalize sortIx l0 hl (ixsOf l0 l1 hall) = ts at hS hlen ⊢; refine hS.mono ?_; rintro e w' ⟨rfl, n, rfl⟩; have hw : (putRow (Value.int .i64) w g 0 ts.toArray).drewN n = grow (putRow (Value.int .i64) (Go.Sort.ahead w n) g 0 ts.toArray) #[] := by rw [grow_empty]; rfl
  rw [hw]; have hgb := grownBy_sortedI (w := w) (g := g) (n := n) (os := #[]) ts.toArray; refine ⟨rfl, ?_, ?_, Kept.of_grown hgb (Kept.refl _ _) (fun k hk => .inl (hok k (by rw [← hk]; rfl)))⟩
  ·have hown := ownsRow_sortedI (n := n) (os := #[]) (ts := ts) hlen hbase hb h1 h2 h3; refine Kd.R_of_own (enc := Value.int .i64) ?_ (fun k hk => .inl (hok k hk)); rw [hlen]
   simpa [encs] using hown
  ·exact ⟨hB.os, hB.tape, hB.output, Nat.le_trans hB.size hgb.size, fun k hk => (hgb.block k (Nat.lt_of_lt_of_le hk hB.size) (fun e => by cases e; omega)).trans (hB.block k hk)⟩
def L_queue.l0 : Nat → List (S42) → List Int → Int → Int → Option (List Int × Int)
 | 0, _, _, _, _ => none
 | k + 1, xl, x8, x25, x26 => if x26 < x25 then (if x8.length < 17592186044416 then (L_queue.l0 k xl (x8 ++ [x26]) x25 (wrap64 (x26 + 1))) else (none)) else ((queueSort xl x8).bind fun t236 => (some (t236, 0)))
def L_queue.f (k : Nat) (l0 : List (S42)) (a1 : Int) : Option (List Int × Int) := (L_CheckTasks.f k l0).bind fun bt225 => ((L_within.f a1 1 24).bind fun t227 => ((L_unless.f t227 2).bind fun t228 => ((L_first.f k (([bt225.2, t228] : List Int))).bind fun t232 => (if t232 = 0 then (L_queue.l0 k l0 ([] : List Int) (l0.length : Int) 0) else (some (([] : List Int), t232))))))
theorem L_queue.mono_l : ∀ k, (∀ y0 y1 y2 y3, LeO (L_queue.l0 k y0 y1 y2 y3) (L_queue.l0 (k + 1) y0 y1 y2 y3))
 | 0 => fun _ _ _ _ r h => by simp [L_queue.l0] at h
 | k + 1 => by
  have ih0 := L_queue.mono_l k
  ·intro y0 y1 y2 y3; unfold L_queue.l0
   repeat' with_reducible first
    | exact ih0 ..
    | exact L_CheckTasks.mono ..
    | exact L_first.mono ..
    | exact LeO.refl ..
    | exact LeO.none ..
    | refine LeO.ite ?_ ?_
    | refine LeO.bind ?_ (fun _ => ?_)
theorem L_queue.mono : ∀ a0 a1 k, LeO (L_queue.f k a0 a1) (L_queue.f (k + 1) a0 a1) := by
 intro a0 a1 k; have ih0 := L_queue.mono_l k; unfold L_queue.f
 repeat' with_reducible first
  | exact ih0 ..
  | exact L_CheckTasks.mono ..
  | exact L_first.mono ..
  | exact LeO.refl ..
  | exact LeO.none ..
  | refine LeO.ite ?_ ?_
  | refine LeO.bind ?_ (fun _ => ?_)
theorem L_queue.calls (k : Nat) (A0 : Option Addr) (c0 : Nat) (l0 : List (S42)) (a1 : Int) (r1 : List Int) (r2 : Int) (w : World) (hr0 : Kd.C k42 w A0 l0.length l0) (hc0 : l0.length ≤ c0) (H : L_queue.f k l0 a1 = some (r1, r2)) :
  Calls Try.prog 79 #[.slice A0 l0.length c0, .int .i64 a1] w fun e w' => ∃ v0_ : Value, e = .returned (.tuple #[v0_, .int .i64 r2]) ∧ Kd.R (Kd.int .i64) 3 w' w.heap.size (fun _ => True) v0_ r1 ∧ Below w.heap.size w w' := by
 have HR0 := m0 hr0; have HC0 := m0 hc0; clear hr0 hc0; have HB := m0 (Below.refl w.heap.size w); unfold L_queue.f at H; replace H := oa H; obtain ⟨⟨t225, t226⟩, A3, H⟩ := H; (try dsimp only at H); replace H := oa H; obtain ⟨t227, A4, H⟩ := H; (try dsimp only at H); replace H := oa H; obtain ⟨t228, A5, H⟩ := H; (try dsimp only at H); obtain ⟨y229, hy229⟩ : ∃ y_ : List Int, y_ = (([t226, t228] : List Int)) := ⟨_, rfl⟩; replace H : ((L_first.f k y229).bind fun t232 => (if t232 = 0 then (L_queue.l0 k l0 ([] : List Int) (l0.length : Int) 0) else (some (([] : List Int), t232)))) = some (r1, r2) := by first | (rw [hy229]; with_reducible exact H) | (have H2_ := (Option.bind_some _ _).symm.trans H; rw [hy229]; with_reducible exact H2_) | (have H2_ := (Option.bind_some _ _).symm.trans H; with_reducible exact H2_) | with_reducible exact H | (rw [hy229]; exact H) | exact H
 have Ny229 := m0 hy229; clear hy229; replace H := oa H; obtain ⟨t232, A6, H⟩ := H; (try dsimp only at H)
 by_cases c7 : t232 = 0
 ·rw [if_pos c7] at H; have c7b0 := beq_iff_eq.mpr c7; have c7b1 := bne_eq_false_iff_eq.mpr c7; clear c7; have H' := m0 H; clear H; go_enter Try.func79, Try.ntmps79
  go_wp2_with (first | ((with_reducible refine ga 2 rfl ?_); refine be 2 22 #[.slice A0 l0.length c0] ?_; intro gb224 hg w8 hbox hb; have BK224 := m0 hbox; have GE224 := gw w hg; replace HB := sb HB hb; clear hb hbox hg; obtain ⟨hcz9_0, hfz9_0⟩ := b1 BK224) | ((with_reducible refine gc 15 rfl ?_); refine gl (some 12) Try.func15 #[.slice A0 l0.length c0] ?_; (with_reducible refine (L_CheckTasks.calls k _ _ l0 t225 t226 _ ?side1 ?side2 A3.out).mono ?_); (case side1 => exact cb HR0 HB); (case side2 => exact HC0.out); rintro e w10 ⟨rfl, hb⟩; refine ⟨_, rfl, ?_⟩; replace BK224 := bb BK224 hb; replace HB := sb HB hb; (try clear hb)) | ((with_reducible refine gc 78 rfl ?_); refine gl (some 17) Try.func78 #[.int .i64 a1, .int .i64 1, .int .i64 24] ?_; (with_reducible refine (L_within.calls a1 1 24 t227 _ A4.out).mono ?_); rintro e w' ⟨rfl, ⟨nd, rfl⟩⟩; refine ⟨_, rfl, ?_⟩) | ((with_reducible refine gc 76 rfl ?_); refine gl (some 18) Try.func76 #[.bool t227, .int .i64 2] ?_; (with_reducible refine (L_unless.calls t227 2 t228 _ A5.out).mono ?_); rintro e w' ⟨rfl, ⟨nd, rfl⟩⟩; refine ⟨_, rfl, ?_⟩) | ((with_reducible refine ga 19 rfl ?_); refine Kd.R_lit (Kd.int .i64) _ 24 ?hg (N := 19) ?hd (xs := ([t226, t228] : List Int)) (inner := [.int .i64 t226, .int .i64 t228]) (ok := fun _ => True) (okp := fun _ => True) ?hr ?hp (fun _ hk => hk) trivial (Below.refl _ _) (Nat.le_refl _) (by simp) ?_; (case hd => rfl); (case hg => rfl); (case hr => first | (go_simp; done) | (go_simp; rfl)); (case hp => exact (Reps.one (ki t226) (Reps.one (ki t228) (Reps.none _ _)))); intro v230 w11 ho12 hb hg_ hnew_; clear hg_ hnew_; (first | rw [← Ny229.out] at ho12 | (simp only [Int.reduceToNat] at ho12; rw [← Ny229.out] at ho12)); have HO231 := m0 (Kd.R_lower ho12 (below_size bz)); replace BK224 := bb BK224 hb; replace HB := sb HB hb; clear hb ho12; obtain ⟨Ao13, co13, eo13⟩ := Kd.R_slice HO231.out; subst eo13) | ((with_reducible refine gc 75 rfl ?_); refine gl (some 20) Try.func75 #[.slice Ao13 y229.length co13] ?_; (with_reducible refine (L_first.calls k _ _ y229 t232 _ ?side1 ?side2 A6.out).mono ?_); (case side1 => exact bc (Kd.R_reads' HO231.out).2.2); (case side2 => exact (Kd.R_reads' HO231.out).2.1); rintro e w' ⟨rfl, ⟨nd, rfl⟩⟩; refine ⟨_, rfl, ?_⟩; obtain ⟨hcz14_0, hfz14_0⟩ := b1 BK224))
  go_loopg [8, 26] k (fun kq v8 v26 w' => ∃ (x8_1 : List Int) (x26_1 : Int), v26 = .int .i64 x26_1 ∧ Aside0 (L_queue.l0 kq l0 x8_1 (l0.length : Int) x26_1 = some (r1, r2)) ∧ Aside0 (kq ≤ k) ∧ Aside0 (Kd.R (Kd.int .i64) 3 w' w.heap.size (fun _ => True) v8 x8_1) ∧ Aside0 (w'.heap[gb224]? = some (.cells #[(.slice A0 l0.length c0)] 22 (0, 0))) ∧ Aside0 (Below w.heap.size w w'))
  case atStart => exact ⟨(([] : List Int)), (0), rz, H', ⟨Nat.le_refl _⟩, ⟨by first | exact Kd.R_nil _ _ _ _ _ | exact Kd.N_nil _ _ _ _ _ | exact Kd.V_nil _ _ _ _ _ | exact Kd.Q_nil _ _ _ _ _ | exact Kd.S_nil _ _ _ _ _⟩, ⟨bk BK224.out⟩, ⟨bz⟩⟩
  case round =>
   clear H'
   try clear hcz14_0
   try clear hcz9_0
   try clear hfz14_0
   try clear hfz9_0
   obtain ⟨x8_1, x26_1, rfl, HA, HK1, HO_8, BK224, HB⟩ := hrel
   cases gk with
   | zero => exact absurd HA.out (by simp [L_queue.l0])
   | succ k1 =>
    have H := HA.out; clear HA; simp only [L_queue.l0] at H
    by_cases c15 : x26_1 < (l0.length : Int)
    ·rw [if_pos c15] at H; have c15b0 := decide_eq_true c15; clear c15
     by_cases c16 : x8_1.length < 17592186044416
     ·rw [if_pos c16] at H; have LMc16 := m0 c16; clear c16; obtain ⟨y233, hy233⟩ : ∃ y_ : List Int, y_ = (x8_1 ++ [x26_1]) := ⟨_, rfl⟩; replace H : (L_queue.l0 k1 l0 y233 (l0.length : Int) (wrap64 (x26_1 + 1))) = some (r1, r2) := by first | (rw [hy233]; with_reducible exact H) | (have H2_ := (Option.bind_some _ _).symm.trans H; rw [hy233]; with_reducible exact H2_) | (have H2_ := (Option.bind_some _ _).symm.trans H; with_reducible exact H2_) | with_reducible exact H | (rw [hy233]; exact H) | exact H
      have Ny233 := m0 hy233; clear hy233; have H' := m0 H; clear H
      go_wp2_with (first | ((with_reducible refine gate_builtin (b := .append) (xs := #[.tmp 29, .tmp 31]) rfl ?_); at_builtin; refine Kd.R_append (Kd.int .i64) (w0 := w) w.heap.size rfl (.tmp 29) (.tmp 31) 28 3 (.int .i64 0) 8 rfl Try.underlying28 info3 rfl (by decide) (by omega) u8 x8_1 x26_1 [.int .i64 x26_1] (fun _ => True) (fun _ => False) rfl rfl ?aP (fun _ hk => hk.elim) ?aF ?aO ?aB ?aS ?aL ?_; (case aP => exact rfl); (case aB => exact bz); (case aF => exact (fun _ _ => trivial)); (case aO => exact (br HO_8.out)); (case aS => exact (below_size bz)); (case aL => have := LMc16.out; omega); intro v234 w17 ho hb hg hat; rw [← Ny233.out] at ho; have n0_ := m0 (blk_grown (g := gb224) (o := .cells #[.slice A0 l0.length c0] 22 (0, 0)) (bk BK224.out) hg (Kd.R_ne HO_8.out BK224.out (by decide))); have n1_ := m0 (hb); have n2_ := m0 (ho); clear BK224; clear HB; clear HO_8; have BK224 := n0_; have HB := n1_; have HO235 := n2_; clear n0_ n1_ n2_; clear ho hb hg hat))
      go_roundg k1
      case measure => have := HK1.out; omega
      case rel => exact ⟨(y233), (wrap64 (x26_1 + 1)), rz, H', ⟨by have := HK1.out; omega⟩, ⟨br HO235.out⟩, ⟨bk BK224.out⟩, ⟨bz⟩⟩
     ·rw [if_neg c16] at H; exact absurd H (by simp)
    ·rw [if_neg c15] at H; have c15b0 := decide_eq_false c15; clear c15; replace H := oa H; obtain ⟨t236, A18, H⟩ := H; (try dsimp only at H); simp only [Option.some.injEq, Prod.mk.injEq] at H; obtain ⟨rfl, rfl⟩ := H; obtain ⟨_, _⟩ := b1 BK224; obtain ⟨Ao20, co20, eo20⟩ := Kd.R_slice HO_8.out; subst eo20
     go_wp2_with (first | ((with_reducible refine gc 128 rfl ?_); refine gl (some 36) Try.func128 #[.slice Ao20 x8_1.length co20, .func (.func 129) #[] #[.pointer (some ⟨gb224, 0, none⟩)]] ?_; (with_reducible refine (queue_sort_calls (fun k_ => some k_ = (.slice Ao20 x8_1.length co20 : Value).ownBlock) (.slice Ao20 x8_1.length co20) x8_1 A0 c0 l0 gb224 t236 w _ ?side1 ?side2 HR0.out ?side3 A18.out).mono ?_); (case side1 => repeat (first | (with_reducible first | exact HB.out | apply below_alloc | apply pw_below_drewN | apply below_drew1 | refine below_set ?_ GE224.out) | exact HB.out)); (case side3 => exact (bk BK224.out)); (case side2 => exact Kd.R_tight rfl HO_8.out); rintro e w21 ⟨rfl, hy0, hb, hkp⟩; refine ⟨_, rfl, ?_⟩; replace BK224 := m0 (blk_kept (bk BK224.out) hkp (fun hs_ => (fun e_ => (Kd.R_ne HO_8.out BK224.out (by decide)) e_) hs_)); replace HO_8 := m0 (Kd.R_reok rfl hy0 (fun k_ e_ => HO_8.out.1 k_ e_)); replace HB := m0 (hb); (try clear hb); (try clear hkp); (try clear hy0)))
     go_ret2
     exact ⟨_, by first | rfl | (simp [errW_none, errW_some] <;> rfl) | (simp [*, errW_none, errW_some] <;> rfl), by (with_reducible repeat (first | apply Kd.R_alloc | apply Kd.R_drewN | apply Kd.R_drew)); exact HO_8.out, by repeat (first | (with_reducible first | exact HB.out | apply below_alloc | apply pw_below_drewN | apply below_drew1 | refine below_set ?_ GE224.out) | exact HB.out)⟩
 ·rw [if_neg c7] at H; have c7b0 := beq_eq_false_iff_ne.mpr c7; have c7b1 := bne_iff_ne.mpr c7; simp only [Option.some.injEq, Prod.mk.injEq] at H; obtain ⟨rfl, rfl⟩ := H; go_enter Try.func79, Try.ntmps79
  go_wp2_with (first | ((with_reducible refine ga 2 rfl ?_); refine be 2 22 #[.slice A0 l0.length c0] ?_; intro gb224 hg w22 hbox hb; have BK224 := m0 hbox; have GE224 := gw w hg; replace HB := sb HB hb; clear hb hbox hg; obtain ⟨_, _⟩ := b1 BK224) | ((with_reducible refine gc 15 rfl ?_); refine gl (some 12) Try.func15 #[.slice A0 l0.length c0] ?_; (with_reducible refine (L_CheckTasks.calls k _ _ l0 t225 t226 _ ?side1 ?side2 A3.out).mono ?_); (case side1 => exact cb HR0 HB); (case side2 => exact HC0.out); rintro e w24 ⟨rfl, hb⟩; refine ⟨_, rfl, ?_⟩; replace BK224 := bb BK224 hb; replace HB := sb HB hb; (try clear hb)) | ((with_reducible refine gc 78 rfl ?_); refine gl (some 17) Try.func78 #[.int .i64 a1, .int .i64 1, .int .i64 24] ?_; (with_reducible refine (L_within.calls a1 1 24 t227 _ A4.out).mono ?_); rintro e w' ⟨rfl, ⟨nd, rfl⟩⟩; refine ⟨_, rfl, ?_⟩) | ((with_reducible refine gc 76 rfl ?_); refine gl (some 18) Try.func76 #[.bool t227, .int .i64 2] ?_; (with_reducible refine (L_unless.calls t227 2 t228 _ A5.out).mono ?_); rintro e w' ⟨rfl, ⟨nd, rfl⟩⟩; refine ⟨_, rfl, ?_⟩) | ((with_reducible refine ga 19 rfl ?_); refine Kd.R_lit (Kd.int .i64) _ 24 ?hg (N := 19) ?hd (xs := ([t226, t228] : List Int)) (inner := [.int .i64 t226, .int .i64 t228]) (ok := fun _ => True) (okp := fun _ => True) ?hr ?hp (fun _ hk => hk) trivial (Below.refl _ _) (Nat.le_refl _) (by simp) ?_; (case hd => rfl); (case hg => rfl); (case hr => first | (go_simp; done) | (go_simp; rfl)); (case hp => exact (Reps.one (ki t226) (Reps.one (ki t228) (Reps.none _ _)))); intro v230 w25 ho26 hb hg_ hnew_; clear hg_ hnew_; (first | rw [← Ny229.out] at ho26 | (simp only [Int.reduceToNat] at ho26; rw [← Ny229.out] at ho26)); have HO231 := m0 (Kd.R_lower ho26 (below_size bz)); replace BK224 := bb BK224 hb; replace HB := sb HB hb; clear hb ho26; obtain ⟨Ao27, co27, eo27⟩ := Kd.R_slice HO231.out; subst eo27) | ((with_reducible refine gc 75 rfl ?_); refine gl (some 20) Try.func75 #[.slice Ao27 y229.length co27] ?_; (with_reducible refine (L_first.calls k _ _ y229 t232 _ ?side1 ?side2 A6.out).mono ?_); (case side1 => exact bc (Kd.R_reads' HO231.out).2.2); (case side2 => exact (Kd.R_reads' HO231.out).2.1); rintro e w' ⟨rfl, ⟨nd, rfl⟩⟩; refine ⟨_, rfl, ?_⟩))
  go_ret2
  exact ⟨_, by first | rfl | (simp [errW_none, errW_some] <;> rfl) | (simp [*, errW_none, errW_some] <;> rfl), by first | exact Kd.R_nil _ _ _ _ _ | exact Kd.N_nil _ _ _ _ _ | exact Kd.V_nil _ _ _ _ _ | exact Kd.Q_nil _ _ _ _ _ | exact Kd.S_nil _ _ _ _ _, by repeat (first | (with_reducible first | exact HB.out | apply below_alloc | apply pw_below_drewN | apply below_drew1 | refine below_set ?_ GE224.out) | exact HB.out)⟩
end
section
def L_floor.f (a0 : Int) (a1 : Int) : Option (Int) := if a1 = 0 then (none) else (if (Int.tmod a0 a1) < 0 then (some (wrap64 ((wrap64 (Int.tdiv a0 a1)) - 1))) else (some (wrap64 (Int.tdiv a0 a1))))
theorem L_floor.calls (a0 : Int) (a1 : Int) (r : Int) (w : World) (H : L_floor.f a0 a1 = some r) :
  Calls Try.prog 91 #[.int .i64 a0, .int .i64 a1] w fun e w' => e = .returned (.int .i64 r) ∧ Drawn0 w w' := by
 unfold L_floor.f at H
 by_cases c3 : a1 = 0
 ·rw [if_pos c3] at H; exact absurd H (by simp)
 ·rw [if_neg c3] at H; have c3b0 := beq_eq_false_iff_ne.mpr c3; have c3b1 := bne_iff_ne.mpr c3
  by_cases c4 : (Int.tmod a0 a1) < 0
  ·rw [if_pos c4] at H; have c4b0 := decide_eq_true c4; clear c4; obtain rfl := Option.some.inj H; go_enter Try.func91, Try.ntmps91
   go_wp2
   go_ret
   exact ⟨rz, by repeat (first | exact Drawn0.refl _ | apply Drawn0.step)⟩
  ·rw [if_neg c4] at H; have c4b0 := decide_eq_false c4; clear c4; obtain rfl := Option.some.inj H; go_enter Try.func91, Try.ntmps91
   go_wp2
   go_ret
   exact ⟨rz, by repeat (first | exact Drawn0.refl _ | apply Drawn0.step)⟩
end
section
def L_ceil.f (a0 : Int) (a1 : Int) : Option (Int) := (L_floor.f (wrap64 (-a0)) a1).bind fun t102 => (some (wrap64 (-t102)))
theorem L_ceil.calls (a0 : Int) (a1 : Int) (r : Int) (w : World) (H : L_ceil.f a0 a1 = some r) :
  Calls Try.prog 80 #[.int .i64 a0, .int .i64 a1] w fun e w' => e = .returned (.int .i64 r) ∧ Drawn0 w w' := by
 unfold L_ceil.f at H; replace H := oa H; obtain ⟨t102, A3, H⟩ := H; (try dsimp only at H); obtain rfl := Option.some.inj H; go_enter Try.func80, Try.ntmps80
 go_wp2_with (first | ((with_reducible refine gc 91 rfl ?_); refine gl (some 8) Try.func91 #[.int .i64 (wrap64 (-a0)), .int .i64 a1] ?_; (with_reducible refine (L_floor.calls (wrap64 (-a0)) a1 t102 _ A3.out).mono ?_); rintro e w' ⟨rfl, ⟨nd, rfl⟩⟩; refine ⟨_, rfl, ?_⟩))
 go_ret
 exact ⟨rz, by repeat (first | exact Drawn0.refl _ | apply Drawn0.step)⟩
end
section
def L_DaysOf.l0 : Nat → List (S42) → Int → List Int → Int → List Int → Int → Int → Option (List Int × Int)
  | 0, _, _, _, _, _, _, _ => none
  | k + 1, x0, x1, x8, x9, x24, x25, x26 => if x26 < x25 then (if 0 ≤ x26 then (if x26 < (x24.length : Int) then (if 0 ≤ (rd x24 x26) then (if (rd x24 x26) < (x0.length : Int) then ((L_ceil.f (wrap64 (x9 + ((rd_T42 x0 (rd x24 x26)).f2))) x1).bind fun t112 => (if (rd x24 x26) < (x8.length : Int) then (L_DaysOf.l0 k x0 x1 (x8.set ((rd x24 x26) : Int).toNat t112) (wrap64 (x9 + ((rd_T42 x0 (rd x24 x26)).f2))) x24 x25 (wrap64 (x26 + 1))) else (none))) else (none)) else (none)) else (none)) else (none)) else (some (x8, 0))
def L_DaysOf.f (k : Nat) (l0 : List (S42)) (a1 : Int) : Option (List Int × Int) := (L_queue.f k l0 a1).bind fun bt103 => (if bt103.2 = 0 then (if 0 ≤ (l0.length : Int) then (if ((l0.length : Int) : Int).toNat ≤ 35184372088832 then (L_DaysOf.l0 k l0 a1 (List.replicate ((l0.length : Int) : Int).toNat 0) 0 bt103.1 (bt103.1.length : Int) 0) else (none)) else (none)) else (none))
theorem L_DaysOf.mono_l : ∀ k, (∀ y0 y1 y2 y3 y4 y5 y6, LeO (L_DaysOf.l0 k y0 y1 y2 y3 y4 y5 y6) (L_DaysOf.l0 (k + 1) y0 y1 y2 y3 y4 y5 y6))
  | 0 => fun _ _ _ _ _ _ _ r h => by simp [L_DaysOf.l0] at h
  | k + 1 => by
    have ih0 := L_DaysOf.mono_l k
    · intro y0 y1 y2 y3 y4 y5 y6; unfold L_DaysOf.l0
      repeat' with_reducible first
        | exact ih0 ..
        | exact L_queue.mono ..
        | exact LeO.refl ..
        | exact LeO.none ..
        | refine LeO.ite ?_ ?_
        | refine LeO.bind ?_ (fun _ => ?_)
theorem L_DaysOf.mono : ∀ a0 a1 k, LeO (L_DaysOf.f k a0 a1) (L_DaysOf.f (k + 1) a0 a1) := by
  intro a0 a1 k; have ih0 := L_DaysOf.mono_l k; unfold L_DaysOf.f
  repeat' with_reducible first
    | exact ih0 ..
    | exact L_queue.mono ..
    | exact LeO.refl ..
    | exact LeO.none ..
    | refine LeO.ite ?_ ?_
    | refine LeO.bind ?_ (fun _ => ?_)
theorem L_DaysOf.calls (k : Nat) (A0 : Option Addr) (c0 : Nat) (l0 : List (S42)) (a1 : Int) (r1 : List Int) (r2 : Int) (w : World) (hr0 : Kd.C k42 w A0 l0.length l0) (hc0 : l0.length ≤ c0) (H : L_DaysOf.f k l0 a1 = some (r1, r2)) :
    Calls Try.prog 17 #[.slice A0 l0.length c0, .int .i64 a1] w fun e w' => ∃ v0_ : Value, e = .returned (.tuple #[v0_, .int .i64 r2]) ∧ Kd.R (Kd.int .i64) 3 w' w.heap.size (fun _ => True) v0_ r1 ∧ Below w.heap.size w w' := by
  have HR0 := m0 hr0; have HC0 := m0 hc0; clear hr0 hc0; have HB := m0 (Below.refl w.heap.size w); unfold L_DaysOf.f at H; replace H := oa H; obtain ⟨⟨t103, t104⟩, A3, H⟩ := H; (try dsimp only at H)
  by_cases c4 : t104 = 0
  · rw [if_pos c4] at H; have c4b0 := beq_iff_eq.mpr c4; have c4b1 := bne_eq_false_iff_eq.mpr c4; clear c4
    by_cases c5 : 0 ≤ (l0.length : Int)
    · rw [if_pos c5] at H; have c5b0 := eq_true c5; have c5b1 := decide_eq_true c5; clear c5
      by_cases c6 : ((l0.length : Int) : Int).toNat ≤ 35184372088832
      · rw [if_pos c6] at H; have c6b0 := eq_true c6; have c6b1 := decide_eq_true c6; clear c6; obtain ⟨y107, hy107⟩ : ∃ y_ : List Int, y_ = (List.replicate ((l0.length : Int) : Int).toNat 0) := ⟨_, rfl⟩; replace H : (L_DaysOf.l0 k l0 a1 y107 0 t103 (t103.length : Int) 0) = some (r1, r2) := by first | (rw [hy107]; with_reducible exact H) | (have H2_ := (Option.bind_some _ _).symm.trans H; rw [hy107]; with_reducible exact H2_) | (have H2_ := (Option.bind_some _ _).symm.trans H; with_reducible exact H2_) | with_reducible exact H | (rw [hy107]; exact H) | exact H
        have Ny107 := m0 hy107; clear hy107; have H' := m0 H; clear H; go_enter Try.func17, Try.ntmps17
        go_wp2_with (first | ((with_reducible refine gc 79 rfl ?_); refine gl (some 15) Try.func79 #[.slice A0 l0.length c0, .int .i64 a1] ?_; (with_reducible refine (L_queue.calls k _ _ l0 a1 t103 t104 _ ?side1 ?side2 A3.out).mono ?_); (case side1 => repeat (first | exact HR0.out | (with_reducible refine Kd.C_alloc ?_ _) | (with_reducible refine Kd.C_drewN ?_ _) | (with_reducible refine Kd.C_drew ?_))); (case side2 => exact HC0.out); rintro e w7 ⟨v105, rfl, ho0, hb⟩; refine ⟨_, rfl, ?_⟩; have HO106 := m0 (Kd.R_lower ho0 (below_size bz)); replace HB := sb HB hb; (try clear hb); (try clear ho0)) | ((with_reducible refine ga 23 rfl ?_); refine Kd.R_make (Kd.int .i64) _ 3 rfl (N := 23) rfl 28 _ _ rfl (l0.length : Int) rfl rfl Try.underlying28 (.int .i64 0) 8 info3 rfl (by decide) (by omega) 0 (ok := fun _ => True) (okp := fun _ => True) rfl (fun _ hk => hk) trivial (od) (Nat.le_trans (Nat.mul_le_mul_right _ (od : (l0.length : Int).toNat ≤ 35184372088832)) (by omega)) (Below.refl _ _) (Nat.le_refl _) ?_; intro v108 w8 ho9 hb hg_ hnew_; clear hg_ hnew_; (first | rw [← Ny107.out] at ho9 | (simp only [Int.reduceToNat] at ho9; rw [← Ny107.out] at ho9)); have HO109 := m0 (Kd.R_lower (Kd.R_new' ho9 (Kd.R_lt (br HO106.out))) (below_size bz)); replace HO106 := m0 (Kd.R_elder' (br HO106.out) (Kd.R_base ho9) hb); replace HB := sb HB hb; clear hb ho9; obtain ⟨Ao10, co10, eo10⟩ := Kd.R_slice HO106.out; subst eo10))
        go_loopg [9, 26] k (fun kq v9 v26 w' => ∃ (x8_1 : List Int) (x9_1 : Int) (x26_1 : Int), v9 = .int .i64 x9_1 ∧ v26 = .int .i64 x26_1 ∧ Aside0 (L_DaysOf.l0 kq l0 a1 x8_1 x9_1 t103 (t103.length : Int) x26_1 = some (r1, r2)) ∧ Aside0 (kq ≤ k) ∧ Aside0 (Kd.R (Kd.int .i64) 3 w' w.heap.size (fun k_ => some k_ ≠ ((.slice Ao10 t103.length co10) : Value).ownBlock) v108 x8_1) ∧ Aside0 (Kd.R (Kd.int .i64) 3 w' w.heap.size (fun k_ => some k_ ≠ (v108 : Value).ownBlock) (.slice Ao10 t103.length co10) t103) ∧ Aside0 (Below w.heap.size w w'))
        case atStart => exact ⟨(y107), (0), (0), rz, rz, H', ⟨Nat.le_refl _⟩, ⟨by (with_reducible repeat (first | apply Kd.R_alloc | apply Kd.R_drewN | apply Kd.R_drew)); exact Kd.R_mono HO109.out (fun _ hk => hk.2)⟩, ⟨by (with_reducible repeat (first | apply Kd.R_alloc | apply Kd.R_drewN | apply Kd.R_drew)); exact Kd.R_mono HO106.out (fun _ hk => hk.2)⟩, ⟨bz⟩⟩
        case round =>
          clear H'; obtain ⟨x8_1, x9_1, x26_1, rfl, rfl, HA, HK1, HO_8, HO_24, HB⟩ := hrel
          cases gk with
          | zero => exact absurd HA.out (by simp [L_DaysOf.l0])
          | succ k1 =>
            have H := HA.out; clear HA; simp only [L_DaysOf.l0] at H
            by_cases c11 : x26_1 < (t103.length : Int)
            · rw [if_pos c11] at H; have c11b0 := decide_eq_true c11; clear c11
              by_cases c12 : 0 ≤ x26_1
              · rw [if_pos c12] at H; have c12b0 := decide_eq_true c12; clear c12
                by_cases c13 : x26_1 < (t103.length : Int)
                · rw [if_pos c13] at H; have c13b0 := decide_eq_true c13; clear c13
                  by_cases c14 : 0 ≤ (rd t103 x26_1)
                  · rw [if_pos c14] at H; have c14b0 := decide_eq_true c14; clear c14
                    by_cases c15 : (rd t103 x26_1) < (l0.length : Int)
                    · rw [if_pos c15] at H; have c15b0 := decide_eq_true c15; clear c15; replace H := oa H; obtain ⟨t112, A16, H⟩ := H; (try dsimp only at H)
                      by_cases c17 : (rd t103 x26_1) < (x8_1.length : Int)
                      · rw [if_pos c17] at H; have c17b0 := decide_eq_true c17; clear c17; obtain ⟨y113, hy113⟩ : ∃ y_ : List Int, y_ = (x8_1.set ((rd t103 x26_1) : Int).toNat t112) := ⟨_, rfl⟩; replace H : (L_DaysOf.l0 k1 l0 a1 y113 (wrap64 (x9_1 + ((rd_T42 l0 (rd t103 x26_1)).f2))) t103 (t103.length : Int) (wrap64 (x26_1 + 1))) = some (r1, r2) := by first | (rw [hy113]; with_reducible exact H) | (have H2_ := (Option.bind_some _ _).symm.trans H; rw [hy113]; with_reducible exact H2_) | (have H2_ := (Option.bind_some _ _).symm.trans H; with_reducible exact H2_) | with_reducible exact H | (rw [hy113]; exact H) | exact H
                        have Ny113 := m0 hy113; clear hy113; have H' := m0 H; clear H; have p110 : 0 ≤ (x26_1 : Int) := od; have q110 : x26_1 < (t103.length : Int) := od; obtain ⟨ad110, e110, hx110_0⟩ := Kd.at_int (Kd.R_reads' HO_24.out).2.2 x26_1 p110 q110
                        cases e110
                        replace p110 := eq_true p110; replace q110 := eq_true q110; have p111 : 0 ≤ ((rd t103 x26_1) : Int) := od; have q111 : (rd t103 x26_1) < (l0.length : Int) := od; obtain ⟨ad111, e111, hx111_0, hx111_1, hx111_2⟩ := at_T42 HR0.out (rd t103 x26_1) p111 q111
                        cases e111
                        replace hx111_0 := hc HB hx111_0; replace hx111_1 := hc HB hx111_1; replace hx111_2 := hc HB hx111_2; replace p111 := eq_true p111; replace q111 := eq_true q111
                        go_wp2_with (first | ((with_reducible refine gc 80 rfl ?_); refine gl (some 41) Try.func80 #[.int .i64 (wrap64 (x9_1 + ((rd_T42 l0 (rd t103 x26_1)).f2))), .int .i64 a1] ?_; (with_reducible refine (L_ceil.calls (wrap64 (x9_1 + ((rd_T42 l0 (rd t103 x26_1)).f2))) a1 t112 _ A16.out).mono ?_); rintro e w' ⟨rfl, ⟨nd, rfl⟩⟩; refine ⟨_, rfl, ?_⟩; (try (rw [drewN_self wr]; generalize hq_ : World.drewN wr _ = wr; replace HO_24 := gr HO_24 hq_; replace HO_8 := gr HO_8 hq_; replace HB := gs HB hq_; clear hq_)); have p18 : 0 ≤ ((rd t103 x26_1) : Int) := od; have q18 : ((rd t103 x26_1) : Int) < ((x8_1.length : Int) : Int) := od; obtain ⟨go18, co18, eo18, gb18, gl18, cl18, HG18⟩ := Kd.R_form HO_8.out (by omega); (first | cases eo18 | (injection eo18 with ea_ en_ ec_; (first | subst ea_ | (injection ea_ with ea_; subst ea_)); subst ec_; clear en_)); have GB18 := m0 gb18; have GG18 := m0 HG18; clear gb18 gl18 HG18; obtain ⟨hx18_0, hf18_0⟩ := Kd.R_celln 0 HO_8.out ((rd t103 x26_1) : Int) p18 q18; replace p18 := eq_true p18; replace q18 := eq_true q18; obtain ⟨hy19_, hz19_⟩ := Kd.R_celln 0 HO_8.out ((rd t103 x26_1) : Int) (od) (od); have HP19 := Kd.R_putg HO_8.out ((rd t103 x26_1) : Int) t112) | ((with_reducible refine gate_store (t := 3) (p := 42) rfl ?_); refine store_event (t := 3) (p := 42) (v := ?vo_w20) (w1 := (wr.setCell ⟨go18, ((rd t103 x26_1) : Int).toNat, none⟩ (.int .i64 t112))) ?hg ?ho ?hn ?hr ?_; (case ho => rfl); (case hg => rfl); (case hn => rfl); (case hr => first | (go_simp; done) | (go_simp; rfl)); intro w20 hw; have hg : wr.grownBy w20 (some go18) := (by rw [hw]; exact HP19.2); have hp_ : Kd.R (Kd.int .i64) 3 w20 w.heap.size (fun k_ => some k_ ≠ (.slice (some ad110) t103.length co10 : Value).ownBlock) (.slice (some ⟨go18, 0, none⟩) x8_1.length co18) y113 := (by rw [hw, Ny113.out]; exact HP19.1); clear HP19; replace HO_8 := m0 (hp_); replace HO_24 := m0 (Kd.R_after (v := (.slice (some ⟨go18, 0, none⟩) x8_1.length co18)) (v1 := (.slice (some ⟨go18, 0, none⟩) x8_1.length co18)) (ok := (fun _ => True)) (by (with_reducible repeat (first | apply Kd.R_alloc | apply Kd.R_drewN | apply Kd.R_drew)); exact Kd.R_mono HO_24.out (fun _ hk => ⟨trivial, hk⟩)) hg (.inl rfl)); replace HB := m0 ((by rw [hw]; exact below_set (HB.out) GB18.out : Below w.heap.size w w20)); clear hg hw hp_))
                        go_roundg k1
                        case measure => have := HK1.out; omega
                        case rel => exact ⟨(y113), (wrap64 (x9_1 + ((rd_T42 l0 (rd t103 x26_1)).f2))), (wrap64 (x26_1 + 1)), rz, rz, H', ⟨by have := HK1.out; omega⟩, ⟨br HO_8.out⟩, ⟨by (with_reducible repeat (first | apply Kd.R_alloc | apply Kd.R_drewN | apply Kd.R_drew)); exact Kd.R_mono HO_24.out (fun _ hk => hk.2)⟩, ⟨bz⟩⟩
                      · rw [if_neg c17] at H; exact absurd H (by simp)
                    · rw [if_neg c15] at H; exact absurd H (by simp)
                  · rw [if_neg c14] at H; exact absurd H (by simp)
                · rw [if_neg c13] at H; exact absurd H (by simp)
              · rw [if_neg c12] at H; exact absurd H (by simp)
            · rw [if_neg c11] at H; have c11b0 := decide_eq_false c11; clear c11; simp only [Option.some.injEq, Prod.mk.injEq] at H; obtain ⟨rfl, rfl⟩ := H
              go_wp2
              go_ret2
              exact ⟨_, by first | rfl | (simp [errW_none, errW_some] <;> rfl) | (simp [*, errW_none, errW_some] <;> rfl), by (with_reducible repeat (first | apply Kd.R_alloc | apply Kd.R_drewN | apply Kd.R_drew)); exact Kd.R_mono HO_8.out (fun _ hk => trivial), by repeat (first | (with_reducible first | exact HB.out | apply below_alloc | apply pw_below_drewN | apply below_drew1) | exact HB.out)⟩
      · rw [if_neg c6] at H; exact absurd H (by simp)
    · rw [if_neg c5] at H; exact absurd H (by simp)
  · rw [if_neg c4] at H; exact absurd H (by simp)
end
section
def L_LackOf.l0 : Nat → List (S42) → Int → List Int → Int → List Int → Int → Int → Option (Int × Int × Int)
 | 0, _, _, _, _, _, _, _ => none
 | k + 1, x0, x1, x7, x9, x23, x24, x25 => if x25 < x24 then (if 0 ≤ x25 then (if x25 < (x23.length : Int) then (if 0 ≤ (rd x23 x25) then (if (rd x23 x25) < (x0.length : Int) then (if (wrap64 (x25 + 1)) = (x7.length : Int) then (if (wrap64 ((wrap64 (x9 + ((rd_T42 x0 (rd x23 x25)).f2))) - (wrap64 (((rd_T42 x0 (rd x23 x25)).f1) * x1)))) > 0 then (some ((rd_T42 x0 (rd x23 x25)).f1, wrap64 ((wrap64 (x9 + ((rd_T42 x0 (rd x23 x25)).f2))) - (wrap64 (((rd_T42 x0 (rd x23 x25)).f1) * x1))), 0)) else (L_LackOf.l0 k x0 x1 x7 (wrap64 (x9 + ((rd_T42 x0 (rd x23 x25)).f2))) x23 x24 (wrap64 (x25 + 1)))) else (if 0 ≤ (wrap64 (x25 + 1)) then (if (wrap64 (x25 + 1)) < (x7.length : Int) then (if 0 ≤ (rd x7 (wrap64 (x25 + 1))) then (if (rd x7 (wrap64 (x25 + 1))) < (x0.length : Int) then (if ((rd_T42 x0 (rd x7 (wrap64 (x25 + 1)))).f1) > ((rd_T42 x0 (rd x23 x25)).f1) then (if (wrap64 ((wrap64 (x9 + ((rd_T42 x0 (rd x23 x25)).f2))) - (wrap64 (((rd_T42 x0 (rd x23 x25)).f1) * x1)))) > 0 then (some ((rd_T42 x0 (rd x23 x25)).f1, wrap64 ((wrap64 (x9 + ((rd_T42 x0 (rd x23 x25)).f2))) - (wrap64 (((rd_T42 x0 (rd x23 x25)).f1) * x1))), 0)) else (L_LackOf.l0 k x0 x1 x7 (wrap64 (x9 + ((rd_T42 x0 (rd x23 x25)).f2))) x23 x24 (wrap64 (x25 + 1)))) else (L_LackOf.l0 k x0 x1 x7 (wrap64 (x9 + ((rd_T42 x0 (rd x23 x25)).f2))) x23 x24 (wrap64 (x25 + 1)))) else (none)) else (none)) else (none)) else (none))) else (none)) else (none)) else (none)) else (none)) else (some (0, 0, 12))
def L_LackOf.f (k : Nat) (l0 : List (S42)) (a1 : Int) : Option (Int × Int × Int) := (L_queue.f k l0 a1).bind fun bt114 => (if bt114.2 = 0 then (L_LackOf.l0 k l0 a1 bt114.1 0 bt114.1 (bt114.1.length : Int) 0) else (none))
theorem L_LackOf.mono_l : ∀ k, (∀ y0 y1 y2 y3 y4 y5 y6, LeO (L_LackOf.l0 k y0 y1 y2 y3 y4 y5 y6) (L_LackOf.l0 (k + 1) y0 y1 y2 y3 y4 y5 y6))
 | 0 => fun _ _ _ _ _ _ _ r h => by simp [L_LackOf.l0] at h
 | k + 1 => by
  have ih0 := L_LackOf.mono_l k
  ·intro y0 y1 y2 y3 y4 y5 y6; unfold L_LackOf.l0
   repeat' with_reducible first
    | exact ih0 ..
    | exact L_queue.mono ..
    | exact LeO.refl ..
    | exact LeO.none ..
    | refine LeO.ite ?_ ?_
    | refine LeO.bind ?_ (fun _ => ?_)
theorem L_LackOf.mono : ∀ a0 a1 k, LeO (L_LackOf.f k a0 a1) (L_LackOf.f (k + 1) a0 a1) := by
 intro a0 a1 k; have ih0 := L_LackOf.mono_l k; unfold L_LackOf.f
 repeat' with_reducible first
  | exact ih0 ..
  | exact L_queue.mono ..
  | exact LeO.refl ..
  | exact LeO.none ..
  | refine LeO.ite ?_ ?_
  | refine LeO.bind ?_ (fun _ => ?_)
theorem L_LackOf.calls (k : Nat) (A0 : Option Addr) (c0 : Nat) (l0 : List (S42)) (a1 : Int) (r1 : Int) (r2 : Int) (r3 : Int) (w : World) (hr0 : Kd.C k42 w A0 l0.length l0) (hc0 : l0.length ≤ c0) (H : L_LackOf.f k l0 a1 = some (r1, r2, r3)) :
  Calls Try.prog 18 #[.slice A0 l0.length c0, .int .i64 a1] w fun e w' => e = .returned (.tuple #[.int .i64 r1, .int .i64 r2, .int .i64 r3]) ∧ Below w.heap.size w w' := by
 have HR0 := m0 hr0; have HC0 := m0 hc0; clear hr0 hc0; have HB := m0 (Below.refl w.heap.size w); unfold L_LackOf.f at H; replace H := oa H; obtain ⟨⟨t114, t115⟩, A3, H⟩ := H; (try dsimp only at H)
 by_cases c4 : t115 = 0
 ·rw [if_pos c4] at H; have c4b0 := beq_iff_eq.mpr c4; have c4b1 := bne_eq_false_iff_eq.mpr c4; clear c4; have H' := m0 H; clear H; go_enter Try.func18, Try.ntmps18
  go_wp2_with (first | (go_at_call 79; (with_reducible refine (L_queue.calls k _ _ l0 a1 t114 t115 _ ?side1 ?side2 A3.out).mono ?_); (case side1 => repeat (first | exact HR0.out | (with_reducible refine Kd.C_alloc ?_ _) | (with_reducible refine Kd.C_drewN ?_ _) | (with_reducible refine Kd.C_drew ?_))); (case side2 => exact HC0.out); rintro e w5 ⟨v116, rfl, ho0, hb⟩; have HO117 := m0 (Kd.R_lower ho0 (below_size bz)); replace HB := sb HB hb; (try clear hb); (try clear ho0); obtain ⟨Ao6, co6, eo6⟩ := Kd.R_slice HO117.out; subst eo6))
  repeat (go_quiet (first | (go_at_call 79; (with_reducible refine (L_queue.calls k _ _ l0 a1 t114 t115 _ ?side1 ?side2 A3.out).mono ?_); (case side1 => repeat (first | exact HR0.out | (with_reducible refine Kd.C_alloc ?_ _) | (with_reducible refine Kd.C_drewN ?_ _) | (with_reducible refine Kd.C_drew ?_))); (case side2 => exact HC0.out); rintro e w5 ⟨v116, rfl, ho0, hb⟩; have HO117 := m0 (Kd.R_lower ho0 (below_size bz)); replace HB := sb HB hb; (try clear hb); (try clear ho0); obtain ⟨Ao6, co6, eo6⟩ := Kd.R_slice HO117.out; subst eo6)); try go_wp2_with (first | (go_at_call 79; (with_reducible refine (L_queue.calls k _ _ l0 a1 t114 t115 _ ?side1 ?side2 A3.out).mono ?_); (case side1 => repeat (first | exact HR0.out | (with_reducible refine Kd.C_alloc ?_ _) | (with_reducible refine Kd.C_drewN ?_ _) | (with_reducible refine Kd.C_drew ?_))); (case side2 => exact HC0.out); rintro e w5 ⟨v116, rfl, ho0, hb⟩; have HO117 := m0 (Kd.R_lower ho0 (below_size bz)); replace HB := sb HB hb; (try clear hb); (try clear ho0); obtain ⟨Ao6, co6, eo6⟩ := Kd.R_slice HO117.out; subst eo6)))
  go_loopg [9, 25] k (fun kq v9 v25 w' => ∃ (x9_1 : Int) (x25_1 : Int), v9 = .int .i64 x9_1 ∧ v25 = .int .i64 x25_1 ∧ Aside0 (L_LackOf.l0 kq l0 a1 t114 x9_1 t114 (t114.length : Int) x25_1 = some (r1, r2, r3)) ∧ Aside0 (kq ≤ k) ∧ Aside0 (Kd.R (Kd.int .i64) 3 w' w.heap.size (fun _ => True) (.slice Ao6 t114.length co6) t114) ∧ Aside0 (Kd.R (Kd.int .i64) 3 w' w.heap.size (fun _ => True) (.slice Ao6 t114.length co6) t114) ∧ Aside0 (Below w.heap.size w w'))
  case atStart => exact ⟨(0), (0), rz, rz, H', ⟨Nat.le_refl _⟩, ⟨br HO117.out⟩, ⟨br HO117.out⟩, ⟨bz⟩⟩
  case round =>
   clear H'; obtain ⟨x9_1, x25_1, rfl, rfl, HA, HK1, HO_7, HO_23, HB⟩ := hrel
   cases gk with
   | zero => exact absurd HA.out (by simp [L_LackOf.l0])
   | succ k1 =>
    have H := HA.out; clear HA; simp only [L_LackOf.l0] at H
    by_cases c7 : x25_1 < (t114.length : Int)
    ·rw [if_pos c7] at H; have c7b0 := decide_eq_true c7; clear c7
     by_cases c8 : 0 ≤ x25_1
     ·rw [if_pos c8] at H; have c8b0 := decide_eq_true c8; clear c8
      by_cases c9 : x25_1 < (t114.length : Int)
      ·rw [if_pos c9] at H; have c9b0 := decide_eq_true c9; clear c9
       by_cases c10 : 0 ≤ (rd t114 x25_1)
       ·rw [if_pos c10] at H; have c10b0 := decide_eq_true c10; clear c10
        by_cases c11 : (rd t114 x25_1) < (l0.length : Int)
        ·rw [if_pos c11] at H; have c11b0 := decide_eq_true c11; clear c11
         by_cases c12 : (wrap64 (x25_1 + 1)) = (t114.length : Int)
         ·rw [if_pos c12] at H; have c12b0 := beq_iff_eq.mpr c12; have c12b1 := bne_eq_false_iff_eq.mpr c12; clear c12
          by_cases c13 : (wrap64 ((wrap64 (x9_1 + ((rd_T42 l0 (rd t114 x25_1)).f2))) - (wrap64 (((rd_T42 l0 (rd t114 x25_1)).f1) * a1)))) > 0
          ·rw [if_pos c13] at H; have c13b0 := decide_eq_true c13; clear c13; simp only [Option.some.injEq, Prod.mk.injEq] at H; obtain ⟨rfl, rfl, rfl⟩ := H; have p118 : 0 ≤ (x25_1 : Int) := od; have q118 : x25_1 < (t114.length : Int) := od; obtain ⟨ad118, e118, hx118_0⟩ := Kd.at_int (Kd.R_reads' HO_23.out).2.2 x25_1 p118 q118
           cases e118
           replace p118 := eq_true p118; replace q118 := eq_true q118; have p119 : 0 ≤ ((rd t114 x25_1) : Int) := od; have q119 : (rd t114 x25_1) < (l0.length : Int) := od; obtain ⟨ad119, e119, hx119_0, hx119_1, hx119_2⟩ := at_T42 HR0.out (rd t114 x25_1) p119 q119
           cases e119
           replace hx119_0 := hc HB hx119_0; replace hx119_1 := hc HB hx119_1; replace hx119_2 := hc HB hx119_2; replace p119 := eq_true p119; replace q119 := eq_true q119; have p120 : 0 ≤ ((rd t114 x25_1) : Int) := od; have q120 : (rd t114 x25_1) < (l0.length : Int) := od; obtain ⟨ad120, e120, hx120_0, hx120_1, hx120_2⟩ := at_T42 HR0.out (rd t114 x25_1) p120 q120; obtain rfl : ad119 = ad120 := (by injection e120); replace hx120_0 := hc HB hx120_0; replace hx120_1 := hc HB hx120_1; replace hx120_2 := hc HB hx120_2; replace p120 := eq_true p120; replace q120 := eq_true q120; have p121 : 0 ≤ ((rd t114 x25_1) : Int) := od; have q121 : (rd t114 x25_1) < (l0.length : Int) := od; obtain ⟨ad121, e121, hx121_0, hx121_1, hx121_2⟩ := at_T42 HR0.out (rd t114 x25_1) p121 q121; obtain rfl : ad119 = ad121 := (by injection e121); replace hx121_0 := hc HB hx121_0; replace hx121_1 := hc HB hx121_1; replace hx121_2 := hc HB hx121_2; replace p121 := eq_true p121; replace q121 := eq_true q121
           go_wp2
           repeat (go_quiet (fail); try go_wp2)
           go_ret3
           exact ez
          ·rw [if_neg c13] at H; have c13b0 := decide_eq_false c13; clear c13; have H' := m0 H; clear H; have p118 : 0 ≤ (x25_1 : Int) := od; have q118 : x25_1 < (t114.length : Int) := od; obtain ⟨ad118, e118, hx118_0⟩ := Kd.at_int (Kd.R_reads' HO_23.out).2.2 x25_1 p118 q118
           cases e118
           replace p118 := eq_true p118; replace q118 := eq_true q118; have p119 : 0 ≤ ((rd t114 x25_1) : Int) := od; have q119 : (rd t114 x25_1) < (l0.length : Int) := od; obtain ⟨ad119, e119, hx119_0, hx119_1, hx119_2⟩ := at_T42 HR0.out (rd t114 x25_1) p119 q119
           cases e119
           replace hx119_0 := hc HB hx119_0; replace hx119_1 := hc HB hx119_1; replace hx119_2 := hc HB hx119_2; replace p119 := eq_true p119; replace q119 := eq_true q119; have p120 : 0 ≤ ((rd t114 x25_1) : Int) := od; have q120 : (rd t114 x25_1) < (l0.length : Int) := od; obtain ⟨ad120, e120, hx120_0, hx120_1, hx120_2⟩ := at_T42 HR0.out (rd t114 x25_1) p120 q120; obtain rfl : ad119 = ad120 := (by injection e120); replace hx120_0 := hc HB hx120_0; replace hx120_1 := hc HB hx120_1; replace hx120_2 := hc HB hx120_2; replace p120 := eq_true p120; replace q120 := eq_true q120
           go_wp2
           repeat (go_quiet (fail); try go_wp2)
           go_roundg k1
           case measure => have := HK1.out; omega
           case rel => exact ⟨(wrap64 (x9_1 + ((rd_T42 l0 (rd t114 x25_1)).f2))), (wrap64 (x25_1 + 1)), rz, rz, H', ⟨by have := HK1.out; omega⟩, ⟨br HO_7.out⟩, ⟨br HO_23.out⟩, ⟨bz⟩⟩
         ·rw [if_neg c12] at H; have c12b0 := beq_eq_false_iff_ne.mpr c12; have c12b1 := bne_iff_ne.mpr c12; obtain ⟨ji14, hji14⟩ : ∃ j_ : Int, (wrap64 (x25_1 + 1)) = j_ := ⟨_, rfl⟩; replace H : (if 0 ≤ (ji14) then (if (ji14) < (t114.length : Int) then (if 0 ≤ (rd t114 (ji14)) then (if (rd t114 (ji14)) < (l0.length : Int) then (if ((rd_T42 l0 (rd t114 (ji14))).f1) > ((rd_T42 l0 (rd t114 x25_1)).f1) then (if (wrap64 ((wrap64 (x9_1 + ((rd_T42 l0 (rd t114 x25_1)).f2))) - (wrap64 (((rd_T42 l0 (rd t114 x25_1)).f1) * a1)))) > 0 then (some ((rd_T42 l0 (rd t114 x25_1)).f1, wrap64 ((wrap64 (x9_1 + ((rd_T42 l0 (rd t114 x25_1)).f2))) - (wrap64 (((rd_T42 l0 (rd t114 x25_1)).f1) * a1))), 0)) else (L_LackOf.l0 k1 l0 a1 t114 (wrap64 (x9_1 + ((rd_T42 l0 (rd t114 x25_1)).f2))) t114 (t114.length : Int) ji14)) else (L_LackOf.l0 k1 l0 a1 t114 (wrap64 (x9_1 + ((rd_T42 l0 (rd t114 x25_1)).f2))) t114 (t114.length : Int) ji14)) else (none)) else (none)) else (none)) else (none)) = some (r1, r2, r3) := by first | (rw [hji14] at H; exact H) | (simp only [hji14] at H ⊢; exact H)
          (try rw [hji14] at c12b0); (try rw [hji14] at c12b1); have hji14w : (IntKind.i64.wrap (x25_1 + 1)) = ji14 := (i64_w _).trans hji14
          by_cases c15 : 0 ≤ (ji14)
          ·rw [if_pos c15] at H; have c15b0 := decide_eq_true c15; clear c15
           by_cases c16 : (ji14) < (t114.length : Int)
           ·rw [if_pos c16] at H; have c16b0 := decide_eq_true c16; clear c16
            by_cases c17 : 0 ≤ (rd t114 (ji14))
            ·rw [if_pos c17] at H; have c17b0 := decide_eq_true c17; clear c17
             by_cases c18 : (rd t114 (ji14)) < (l0.length : Int)
             ·rw [if_pos c18] at H; have c18b0 := decide_eq_true c18; clear c18
              by_cases c19 : ((rd_T42 l0 (rd t114 (ji14))).f1) > ((rd_T42 l0 (rd t114 x25_1)).f1)
              ·rw [if_pos c19] at H; have c19b0 := decide_eq_true c19; clear c19
               by_cases c20 : (wrap64 ((wrap64 (x9_1 + ((rd_T42 l0 (rd t114 x25_1)).f2))) - (wrap64 (((rd_T42 l0 (rd t114 x25_1)).f1) * a1)))) > 0
               ·rw [if_pos c20] at H; have c20b0 := decide_eq_true c20; clear c20; simp only [Option.some.injEq, Prod.mk.injEq] at H; obtain ⟨rfl, rfl, rfl⟩ := H; have p118 : 0 ≤ (x25_1 : Int) := od; have q118 : x25_1 < (t114.length : Int) := od; obtain ⟨ad118, e118, hx118_0⟩ := Kd.at_int (Kd.R_reads' HO_23.out).2.2 x25_1 p118 q118
                cases e118
                replace p118 := eq_true p118; replace q118 := eq_true q118; have p119 : 0 ≤ ((rd t114 x25_1) : Int) := od; have q119 : (rd t114 x25_1) < (l0.length : Int) := od; obtain ⟨ad119, e119, hx119_0, hx119_1, hx119_2⟩ := at_T42 HR0.out (rd t114 x25_1) p119 q119
                cases e119
                replace hx119_0 := hc HB hx119_0; replace hx119_1 := hc HB hx119_1; replace hx119_2 := hc HB hx119_2; replace p119 := eq_true p119; replace q119 := eq_true q119; have p122 : 0 ≤ ((ji14) : Int) := od; have q122 : (ji14) < (t114.length : Int) := od; obtain ⟨ad122, e122, hx122_0⟩ := Kd.at_int (Kd.R_reads' HO_7.out).2.2 (ji14) p122 q122; obtain rfl : ad118 = ad122 := (by injection e122); replace p122 := eq_true p122; replace q122 := eq_true q122; have p123 : 0 ≤ ((rd t114 (ji14)) : Int) := od; have q123 : (rd t114 (ji14)) < (l0.length : Int) := od; obtain ⟨ad123, e123, hx123_0, hx123_1, hx123_2⟩ := at_T42 HR0.out (rd t114 (ji14)) p123 q123; obtain rfl : ad119 = ad123 := (by injection e123); replace hx123_0 := hc HB hx123_0; replace hx123_1 := hc HB hx123_1; replace hx123_2 := hc HB hx123_2; replace p123 := eq_true p123; replace q123 := eq_true q123; have p124 : 0 ≤ ((rd t114 x25_1) : Int) := od; have q124 : (rd t114 x25_1) < (l0.length : Int) := od; obtain ⟨ad124, e124, hx124_0, hx124_1, hx124_2⟩ := at_T42 HR0.out (rd t114 x25_1) p124 q124; obtain rfl : ad119 = ad124 := (by injection e124); replace hx124_0 := hc HB hx124_0; replace hx124_1 := hc HB hx124_1; replace hx124_2 := hc HB hx124_2; replace p124 := eq_true p124; replace q124 := eq_true q124; have p125 : 0 ≤ ((rd t114 x25_1) : Int) := od; have q125 : (rd t114 x25_1) < (l0.length : Int) := od; obtain ⟨ad125, e125, hx125_0, hx125_1, hx125_2⟩ := at_T42 HR0.out (rd t114 x25_1) p125 q125; obtain rfl : ad119 = ad125 := (by injection e125); replace hx125_0 := hc HB hx125_0; replace hx125_1 := hc HB hx125_1; replace hx125_2 := hc HB hx125_2; replace p125 := eq_true p125; replace q125 := eq_true q125; have p126 : 0 ≤ ((rd t114 x25_1) : Int) := od; have q126 : (rd t114 x25_1) < (l0.length : Int) := od; obtain ⟨ad126, e126, hx126_0, hx126_1, hx126_2⟩ := at_T42 HR0.out (rd t114 x25_1) p126 q126; obtain rfl : ad119 = ad126 := (by injection e126); replace hx126_0 := hc HB hx126_0; replace hx126_1 := hc HB hx126_1; replace hx126_2 := hc HB hx126_2; replace p126 := eq_true p126; replace q126 := eq_true q126
                go_wp2
                repeat (go_quiet (fail); try go_wp2)
                go_ret3
                exact ⟨by first | rfl | (simp [errW_none, errW_some] <;> rfl) | (simp only [← hji14]; first | rfl | (simp [errW_none, errW_some] <;> rfl)) | (simp [*, errW_none, errW_some] <;> rfl), by repeat (first | (with_reducible first | exact HB.out | apply below_alloc | apply pw_below_drewN | apply below_drew1) | exact HB.out)⟩
               ·rw [if_neg c20] at H; have c20b0 := decide_eq_false c20; clear c20; have H' := m0 H; clear H; have p118 : 0 ≤ (x25_1 : Int) := od; have q118 : x25_1 < (t114.length : Int) := od; obtain ⟨ad118, e118, hx118_0⟩ := Kd.at_int (Kd.R_reads' HO_23.out).2.2 x25_1 p118 q118
                cases e118
                replace p118 := eq_true p118; replace q118 := eq_true q118; have p119 : 0 ≤ ((rd t114 x25_1) : Int) := od; have q119 : (rd t114 x25_1) < (l0.length : Int) := od; obtain ⟨ad119, e119, hx119_0, hx119_1, hx119_2⟩ := at_T42 HR0.out (rd t114 x25_1) p119 q119
                cases e119
                replace hx119_0 := hc HB hx119_0; replace hx119_1 := hc HB hx119_1; replace hx119_2 := hc HB hx119_2; replace p119 := eq_true p119; replace q119 := eq_true q119; have p122 : 0 ≤ ((ji14) : Int) := od; have q122 : (ji14) < (t114.length : Int) := od; obtain ⟨ad122, e122, hx122_0⟩ := Kd.at_int (Kd.R_reads' HO_7.out).2.2 (ji14) p122 q122; obtain rfl : ad118 = ad122 := (by injection e122); replace p122 := eq_true p122; replace q122 := eq_true q122; have p123 : 0 ≤ ((rd t114 (ji14)) : Int) := od; have q123 : (rd t114 (ji14)) < (l0.length : Int) := od; obtain ⟨ad123, e123, hx123_0, hx123_1, hx123_2⟩ := at_T42 HR0.out (rd t114 (ji14)) p123 q123; obtain rfl : ad119 = ad123 := (by injection e123); replace hx123_0 := hc HB hx123_0; replace hx123_1 := hc HB hx123_1; replace hx123_2 := hc HB hx123_2; replace p123 := eq_true p123; replace q123 := eq_true q123; have p124 : 0 ≤ ((rd t114 x25_1) : Int) := od; have q124 : (rd t114 x25_1) < (l0.length : Int) := od; obtain ⟨ad124, e124, hx124_0, hx124_1, hx124_2⟩ := at_T42 HR0.out (rd t114 x25_1) p124 q124; obtain rfl : ad119 = ad124 := (by injection e124); replace hx124_0 := hc HB hx124_0; replace hx124_1 := hc HB hx124_1; replace hx124_2 := hc HB hx124_2; replace p124 := eq_true p124; replace q124 := eq_true q124; have p125 : 0 ≤ ((rd t114 x25_1) : Int) := od; have q125 : (rd t114 x25_1) < (l0.length : Int) := od; obtain ⟨ad125, e125, hx125_0, hx125_1, hx125_2⟩ := at_T42 HR0.out (rd t114 x25_1) p125 q125; obtain rfl : ad119 = ad125 := (by injection e125); replace hx125_0 := hc HB hx125_0; replace hx125_1 := hc HB hx125_1; replace hx125_2 := hc HB hx125_2; replace p125 := eq_true p125; replace q125 := eq_true q125
                go_wp2
                repeat (go_quiet (fail); try go_wp2)
                go_roundg k1
                case measure => have := HK1.out; omega
                case rel => exact ⟨(wrap64 (x9_1 + ((rd_T42 l0 (rd t114 x25_1)).f2))), (ji14), rz, (by first | rfl | (simp; done) | (simp only [← hji14] <;> (first | rfl | simp)) | (simp [*]; done)), H', ⟨by have := HK1.out; omega⟩, ⟨br HO_7.out⟩, ⟨br HO_23.out⟩, ⟨bz⟩⟩
              ·rw [if_neg c19] at H; have c19b0 := decide_eq_false c19; clear c19; have H' := m0 H; clear H; have p118 : 0 ≤ (x25_1 : Int) := od; have q118 : x25_1 < (t114.length : Int) := od; obtain ⟨ad118, e118, hx118_0⟩ := Kd.at_int (Kd.R_reads' HO_23.out).2.2 x25_1 p118 q118
               cases e118
               replace p118 := eq_true p118; replace q118 := eq_true q118; have p119 : 0 ≤ ((rd t114 x25_1) : Int) := od; have q119 : (rd t114 x25_1) < (l0.length : Int) := od; obtain ⟨ad119, e119, hx119_0, hx119_1, hx119_2⟩ := at_T42 HR0.out (rd t114 x25_1) p119 q119
               cases e119
               replace hx119_0 := hc HB hx119_0; replace hx119_1 := hc HB hx119_1; replace hx119_2 := hc HB hx119_2; replace p119 := eq_true p119; replace q119 := eq_true q119; have p122 : 0 ≤ ((ji14) : Int) := od; have q122 : (ji14) < (t114.length : Int) := od; obtain ⟨ad122, e122, hx122_0⟩ := Kd.at_int (Kd.R_reads' HO_7.out).2.2 (ji14) p122 q122; obtain rfl : ad118 = ad122 := (by injection e122); replace p122 := eq_true p122; replace q122 := eq_true q122; have p123 : 0 ≤ ((rd t114 (ji14)) : Int) := od; have q123 : (rd t114 (ji14)) < (l0.length : Int) := od; obtain ⟨ad123, e123, hx123_0, hx123_1, hx123_2⟩ := at_T42 HR0.out (rd t114 (ji14)) p123 q123; obtain rfl : ad119 = ad123 := (by injection e123); replace hx123_0 := hc HB hx123_0; replace hx123_1 := hc HB hx123_1; replace hx123_2 := hc HB hx123_2; replace p123 := eq_true p123; replace q123 := eq_true q123; have p124 : 0 ≤ ((rd t114 x25_1) : Int) := od; have q124 : (rd t114 x25_1) < (l0.length : Int) := od; obtain ⟨ad124, e124, hx124_0, hx124_1, hx124_2⟩ := at_T42 HR0.out (rd t114 x25_1) p124 q124; obtain rfl : ad119 = ad124 := (by injection e124); replace hx124_0 := hc HB hx124_0; replace hx124_1 := hc HB hx124_1; replace hx124_2 := hc HB hx124_2; replace p124 := eq_true p124; replace q124 := eq_true q124; have p125 : 0 ≤ ((rd t114 x25_1) : Int) := od; have q125 : (rd t114 x25_1) < (l0.length : Int) := od; obtain ⟨ad125, e125, hx125_0, hx125_1, hx125_2⟩ := at_T42 HR0.out (rd t114 x25_1) p125 q125; obtain rfl : ad119 = ad125 := (by injection e125); replace hx125_0 := hc HB hx125_0; replace hx125_1 := hc HB hx125_1; replace hx125_2 := hc HB hx125_2; replace p125 := eq_true p125; replace q125 := eq_true q125
               go_wp2
               repeat (go_quiet (fail); try go_wp2)
               go_roundg k1
               case measure => have := HK1.out; omega
               case rel => exact ⟨(wrap64 (x9_1 + ((rd_T42 l0 (rd t114 x25_1)).f2))), (ji14), rz, (by first | rfl | (simp; done) | (simp only [← hji14] <;> (first | rfl | simp)) | (simp [*]; done)), H', ⟨by have := HK1.out; omega⟩, ⟨br HO_7.out⟩, ⟨br HO_23.out⟩, ⟨bz⟩⟩
             ·rw [if_neg c18] at H; exact absurd H (by simp)
            ·rw [if_neg c17] at H; exact absurd H (by simp)
           ·rw [if_neg c16] at H; exact absurd H (by simp)
          ·rw [if_neg c15] at H; exact absurd H (by simp)
        ·rw [if_neg c11] at H; exact absurd H (by simp)
       ·rw [if_neg c10] at H; exact absurd H (by simp)
      ·rw [if_neg c9] at H; exact absurd H (by simp)
     ·rw [if_neg c8] at H; exact absurd H (by simp)
    ·rw [if_neg c7] at H; have c7b0 := decide_eq_false c7; clear c7; simp only [Option.some.injEq, Prod.mk.injEq] at H; obtain ⟨rfl, rfl, rfl⟩ := H
     go_wp2
     repeat (go_quiet (fail); try go_wp2)
     go_ret3
     exact ez
 ·rw [if_neg c4] at H; exact absurd H (by simp)
end
section
def Bs_Ints.l0 : Nat → List Int → List Int → Int → Option (Bool)
 | 0, _, _, _ => none
 | k + 1, x0, x1, x5 => if x5 < (x0.length : Int) then (if 0 ≤ x5 then (if x5 < (x1.length : Int) then (if (rd x0 x5) = (rd x1 x5) then (Bs_Ints.l0 k x0 x1 (wrap64 (x5 + 1))) else (some false)) else (none)) else (none)) else (some true)
def Bs_Ints.f (k : Nat) (l0 : List Int) (l1 : List Int) : Option (Bool) := if (l0.length : Int) = (l1.length : Int) then (Bs_Ints.l0 k l0 l1 0) else (some false)
theorem Bs_Ints.mono_l : ∀ k, (∀ y0 y1 y2, LeO (Bs_Ints.l0 k y0 y1 y2) (Bs_Ints.l0 (k + 1) y0 y1 y2))
 | 0 => fun _ _ _ r h => by simp [Bs_Ints.l0] at h
 | k + 1 => by
  have ih0 := Bs_Ints.mono_l k
  ·intro y0 y1 y2; unfold Bs_Ints.l0
   repeat' with_reducible first
    | exact ih0 ..
    | exact LeO.refl ..
    | exact LeO.none ..
    | refine LeO.ite ?_ ?_
    | refine LeO.bind ?_ (fun _ => ?_)
theorem Bs_Ints.mono : ∀ a0 a1 k, LeO (Bs_Ints.f k a0 a1) (Bs_Ints.f (k + 1) a0 a1) := by
 intro a0 a1 k; have ih0 := Bs_Ints.mono_l k; unfold Bs_Ints.f
 repeat' with_reducible first
  | exact ih0 ..
  | exact LeO.refl ..
  | exact LeO.none ..
  | refine LeO.ite ?_ ?_
  | refine LeO.bind ?_ (fun _ => ?_)
theorem Bs_Ints.calls (k : Nat) (A0 : Option Addr) (c0 : Nat) (l0 : List Int) (A1 : Option Addr) (c1 : Nat) (l1 : List Int) (r : Bool) (w : World) (hr0 : Kd.C (Kd.int .i64) w A0 l0.length l0) (hc0 : l0.length ≤ c0) (hr1 : Kd.C (Kd.int .i64) w A1 l1.length l1) (hc1 : l1.length ≤ c1) (H : Bs_Ints.f k l0 l1 = some r) :
  Calls Try.prog 21 #[.slice A0 l0.length c0, .slice A1 l1.length c1] w fun e w' => e = .returned (.bool r) ∧ Drawn0 w w' := by
 have HR0 := m0 hr0; have HC0 := m0 hc0; clear hr0 hc0; have HR1 := m0 hr1; have HC1 := m0 hc1; clear hr1 hc1; unfold Bs_Ints.f at H
 by_cases c3 : (l0.length : Int) = (l1.length : Int)
 ·rw [if_pos c3] at H; have c3b0 := beq_iff_eq.mpr c3; have c3b1 := bne_eq_false_iff_eq.mpr c3; have c3b2 : (l0.length == l1.length) = true := by first | simpa using c3 | (simp at c3 ⊢; omega)
  clear c3; have H' := m0 H; clear H; go_enter Try.func21, Try.ntmps21
  go_wp2
  repeat (go_quiet (fail); try go_wp2)
  go_loopg [5] k (fun kq v5 w' => ∃ (x5_1 : Int), v5 = .int .i64 x5_1 ∧ Aside0 (Bs_Ints.l0 kq l0 l1 x5_1 = some r) ∧ Aside0 (kq ≤ k) ∧ Drawn0 w w')
  case atStart => exact ⟨(0), rz, H', ⟨Nat.le_refl _⟩, by repeat (first | exact Drawn0.refl _ | apply Drawn0.step)⟩
  case round =>
   clear H'; obtain ⟨x5_1, rfl, HA, HK1, ⟨m1, rfl⟩⟩ := hrel
   cases gk with
   | zero => exact absurd HA.out (by simp [Bs_Ints.l0])
   | succ k1 =>
    have H := HA.out; clear HA; simp only [Bs_Ints.l0] at H
    by_cases c4 : x5_1 < (l0.length : Int)
    ·rw [if_pos c4] at H; have c4b0 := decide_eq_true c4; clear c4
     by_cases c5 : 0 ≤ x5_1
     ·rw [if_pos c5] at H; have c5b0 := decide_eq_true c5; clear c5
      by_cases c6 : x5_1 < (l1.length : Int)
      ·rw [if_pos c6] at H; have c6b0 := decide_eq_true c6; clear c6
       by_cases c7 : (rd l0 x5_1) = (rd l1 x5_1)
       ·rw [if_pos c7] at H; have c7b0 := beq_iff_eq.mpr c7; have c7b1 := bne_eq_false_iff_eq.mpr c7; clear c7; have H' := m0 H; clear H; have p127 : 0 ≤ (x5_1 : Int) := od; have q127 : x5_1 < (l0.length : Int) := od; obtain ⟨ad127, e127, hx127_0⟩ := Kd.at_int HR0.out x5_1 p127 q127
        cases e127
        replace p127 := eq_true p127; replace q127 := eq_true q127; have p128 : 0 ≤ (x5_1 : Int) := od; have q128 : x5_1 < (l1.length : Int) := od; obtain ⟨ad128, e128, hx128_0⟩ := Kd.at_int HR1.out x5_1 p128 q128
        cases e128
        replace p128 := eq_true p128; replace q128 := eq_true q128
        go_wp2
        repeat (go_quiet (fail); try go_wp2)
        go_roundg k1
        case measure => have := HK1.out; omega
        case rel => exact ⟨(wrap64 (x5_1 + 1)), rz, H', ⟨by have := HK1.out; omega⟩, by repeat (first | exact Drawn0.refl _ | apply Drawn0.step)⟩
       ·rw [if_neg c7] at H; have c7b0 := beq_eq_false_iff_ne.mpr c7; have c7b1 := bne_iff_ne.mpr c7; obtain rfl := Option.some.inj H; have p127 : 0 ≤ (x5_1 : Int) := od; have q127 : x5_1 < (l0.length : Int) := od; obtain ⟨ad127, e127, hx127_0⟩ := Kd.at_int HR0.out x5_1 p127 q127
        cases e127
        replace p127 := eq_true p127; replace q127 := eq_true q127; have p128 : 0 ≤ (x5_1 : Int) := od; have q128 : x5_1 < (l1.length : Int) := od; obtain ⟨ad128, e128, hx128_0⟩ := Kd.at_int HR1.out x5_1 p128 q128
        cases e128
        replace p128 := eq_true p128; replace q128 := eq_true q128
        go_wp2
        repeat (go_quiet (fail); try go_wp2)
        go_ret
        exact ⟨rz, by repeat (first | exact Drawn0.refl _ | apply Drawn0.step)⟩
      ·rw [if_neg c6] at H; exact absurd H (by simp)
     ·rw [if_neg c5] at H; exact absurd H (by simp)
    ·rw [if_neg c4] at H; have c4b0 := decide_eq_false c4; clear c4; obtain rfl := Option.some.inj H
     go_wp2
     repeat (go_quiet (fail); try go_wp2)
     go_ret
     exact ⟨rz, by repeat (first | exact Drawn0.refl _ | apply Drawn0.step)⟩
 ·rw [if_neg c3] at H; have c3b0 := beq_eq_false_iff_ne.mpr c3; have c3b1 := bne_iff_ne.mpr c3; have c3b2 : (l0.length == l1.length) = false := by first | simpa using c3 | (simp at c3 ⊢; omega)
  obtain rfl := Option.some.inj H; go_enter Try.func21, Try.ntmps21
  go_wp2
  repeat (go_quiet (fail); try go_wp2)
  go_ret
  exact ⟨rz, by repeat (first | exact Drawn0.refl _ | apply Drawn0.step)⟩
end
section
def L_offsets.f (a0_0 : Int) (a0_1 : Int) (a0_2 : Int) : Option (Int × Int) := some (wrap64 ((wrap64 (a0_1 - a0_0)) - a0_2), wrap64 ((wrap64 (a0_1 - a0_0)) + a0_2))
theorem L_offsets.calls (a0_0 : Int) (a0_1 : Int) (a0_2 : Int) (r1 : Int) (r2 : Int) (w : World) (H : L_offsets.f a0_0 a0_1 a0_2 = some (r1, r2)) :
  Calls Try.prog 114 #[.agg #[.int .i64 a0_0, .int .i64 a0_1, .int .i64 a0_2]] w fun e w' => e = .returned (.agg #[.int .i64 r1, .int .i64 r2]) ∧ Below w.heap.size w w' := by
 have hu85 := Try.underlying85; have hu58 := Try.underlying58; have HB := m0 (Below.refl w.heap.size w); unfold L_offsets.f at H; simp only [Option.some.injEq, Prod.mk.injEq] at H; obtain ⟨rfl, rfl⟩ := H; go_enter Try.func114, Try.ntmps114
 go_wp2_with (first | ((with_reducible refine ga 1 rfl ?_); refine be 1 85 #[.int .i64 a0_0, .int .i64 a0_1, .int .i64 a0_2] ?_; intro gb177 hg w2 hbox hb; have BK177 := m0 hbox; have GE177 := gw w hg; replace HB := sb HB hb; clear hb hbox hg) | ((with_reducible refine ga 2 rfl ?_); refine be 2 58 #[.int .i64 0, .int .i64 0] ?_; intro gb178 hg w3 hbox hb; have BK178 := m0 hbox; have GE178 := gw w hg; replace HB := sb HB hb; have NB177_178 := nl BK177 hg; have NB178_177 := ng (nl BK177 hg); replace BK177 := bb BK177 hb; clear hb hbox hg; have hnb4 := NB177_178.out; have hnc4 := NB178_177.out; obtain ⟨_, _, _, _, _, _⟩ := b3 BK177; obtain ⟨_, _, _, _⟩ := b2 BK178))
 refine bodyPost_ret (results_cell_row rfl _ _ gb178 58 #[.int .i64 (wrap64 ((wrap64 (a0_1 - a0_0)) - a0_2)), .int .i64 (wrap64 ((wrap64 (a0_1 - a0_0)) + a0_2))] (0, 0) _ rfl (bq BK178.out) Try.underlying58 rfl (by kernel_rfl)) rfl ?_; exact ez
end
end Go.Proofs.Ytibhfahbabgbaaa.A
