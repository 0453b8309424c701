/- Walks of the program's functions (printed, made shorter), each with what it computes. -/
import Derived.Test.YteiafijbgjgiaaaProg
import Derived.Test.YteiafijbgjgiaaaB05
namespace Go.Proofs.Yteiafijbgjgiaaa.A
set_option maxHeartbeats 8000000
set_option maxRecDepth 100000
open Go.RowKit Go.Proofs.YteiafijbgjgiaaaW.PrintWords Go.Proofs.YteiafijbgjgiaaaW.PrintLast Go.Proofs.YteiafijbgjgiaaaW.PrintMore
attribute [local go_sem] max2_int min2_int max_two min_two max_three min_three max_four min_four
set_option linter.unusedVariables false
set_option linter.unusedSimpArgs false
section
def errW : Option Int → Value
  | none => .nilIface
  | some c => .iface 0 (.int .i64 c)
theorem errW_none : errW none = .nilIface := rfl
theorem errW_some (c : Int) : errW (some c) = .iface 0 (.int .i64 c) := rfl
/-- A call through a variable that holds a function without captured variables, in a region that draws. -/
theorem goesV_ {P : Program} {ops : Array Oper} {Q : Exit → Act → World → Prop} {oi : Oper} {N : Option Tmp} {a : Act} {w : World} {K : Act → World → Prop} {f : FuncId} {fn : Func} {av : Array Operand} {ts : Array TypeId} (t : Tmp) (hf : P.funcs[f]? = some fn) (hname : (fn.name == "runtime.NumGoroutine") = false) (hb : fn.body.isSome = true) (args : Array Value)
    (hw : Region.wanted oi (yielded ops a.tmps) = true) (hN : oi.dst = N) (hop : oi.op = .call { callee := .value (.tmp t), args := av, argTypes := ts }) (ht : a.tmps[t]? = some (.func (.func f) #[] #[])) (hargs : av.map a.eval = args)
    (h : Calls P f args w fun e w' => ∃ v, e = .returned v ∧ K (a.put N v) w') : if Region.wanted oi (yielded ops a.tmps) = true then Oper.wp P oi a w K Q else K (a.put N undef) w := by
  refine call_ f args hw hN ?_ h; have he := enters_ hf hname hb args w; unfold execOp
  simp [hop, resolve, Deferred.ofValue, invoke, Act.eval, hargs, he, ht]
theorem ret_int {k : IntKind} {a b : Int} (h : a = b) : Ending.returned (.int k a) = Ending.returned (.int k b) := by rw [h]
theorem ret_bool {a b : Bool} (h : a = b) : Ending.returned (.bool a) = Ending.returned (.bool b) := by rw [h]
def PredI (g : Nat) (lb : Array Value) (p : Int → Bool) (w : World) : Prop :=
  ∀ (W : World) (x : Int), Below w.heap.size w W → Calls Try.prog g (#[.int .i64 x] ++ lb) W fun e w' => e = .returned (.bool (p x)) ∧ ∃ q, w' = W.drewN q
def idxF (p : Int → Bool) (l : List Int) : Int := match l.findIdx? p with | some i => (i : Int) | none => -1
theorem idxF_hit (p : Int → Bool) (l : List Int) (k : Nat) (h : k < l.length) (hp : p (rd l k) = true) (h0 : ∀ j, j < k → p (rd l j) = false) : idxF p l = k := by
  have : l.findIdx? p = some k := by
    rw [List.findIdx?_eq_some_iff_getElem]; refine ⟨h, ?_, fun j hj => ?_⟩
    · simpa [rd, List.getD_eq_getElem?_getD, List.getElem?_eq_getElem h] using hp
    · have := h0 j hj; have hj' : j < l.length := Nat.lt_trans hj h
      simpa [rd, List.getD_eq_getElem?_getD, List.getElem?_eq_getElem hj'] using this
  simp [idxF, this]
theorem idxF_miss (p : Int → Bool) (l : List Int) (h0 : ∀ j, j < l.length → p (rd l j) = false) : idxF p l = -1 := by
  have : l.findIdx? p = none := by
    rw [List.findIdx?_eq_none_iff]; intro x hx; obtain ⟨j, hj, rfl⟩ := List.getElem_of_mem hx
    simpa [rd, List.getD_eq_getElem?_getD, List.getElem?_eq_getElem hj] using h0 j hj
  simp [idxF, this]
theorem idxF_any (p : Int → Bool) (l : List Int) : decide (0 ≤ idxF p l) = l.any p := by
  unfold idxF
  cases h : l.findIdx? p with
  | none =>
    rw [List.findIdx?_eq_none_iff] at h; have : l.any p = false := by rw [List.any_eq_false]; exact fun x hx => by simp [h x hx]
    rw [this]; rfl
  | some i =>
    rw [List.findIdx?_eq_some_iff_getElem] at h; obtain ⟨hi, hp, _⟩ := h; have : l.any p = true := List.any_eq_true.mpr ⟨_, List.getElem_mem hi, hp⟩; rw [this]
    simp
def eqElems (d : Nat) (e : TypeId) (n : Nat) (xs ys : Array Value) : List Nat → Sem Bool
  | [] => pure true
  | i :: r => do
    let a ← part e xs (i * n)
    let b ← part e ys (i * n)
    let q ← Op.equalIn d e a b
    if (!q) = true then pure false else eqElems d e n xs ys r
theorem run_equalIn_array {P : Program} {t e : TypeId} {len n d : Nat} {xs ys : Array Value} {w : World} (hu : P.underlying t = some (.array len e)) (hn : ∀ w, (sizeOf e).run P w = .ok n w) :
    (Op.equalIn (d + 1) t (.agg xs) (.agg ys)).run P w = (eqElems d e n xs ys (List.range' 0 len)).run P w := by
  simp only [Op.equalIn, Sem.run_bind, run_underlying hu, Result.andThen_ok, hn]
  simp
  generalize List.range' 0 len = is; clear hu
  induction is generalizing w with
  | nil => simp [eqElems]
  | cons i is ih =>
    simp only [List.forIn_cons, eqElems, Sem.run_bind, Sem.run_ite, Bool.not_eq_true']; generalize (part e xs (i * n)).run P w = r1
    cases r1 with
    | ok a w1 =>
      simp only [Result.andThen_ok]; generalize (part e ys (i * n)).run P w1 = r2
      cases r2 with
      | ok b w2 =>
        simp only [Result.andThen_ok]; generalize (Op.equalIn d e a b).run P w2 = r3
        cases r3 with
        | ok r w3 =>
          cases r
          · simp only [Result.andThen_ok, Bool.not_false, if_true, Sem.run_pure]
          · simp only [Result.andThen_ok, Bool.not_true, Bool.false_eq_true, if_false, Sem.run_pure]
            simpa using ih (w := w3)
        | halt x w3 => simp [Result.andThen]
      | halt x w2 => simp [Result.andThen]
    | halt x w1 => simp [Result.andThen]
section
variable {P : Program} {d n i : Nat} {e : TypeId} {xs ys : Array Value} {is : List Nat} {a b : Value} {r s : Bool} {w : World}
theorem eqe_last (ha : (part e xs (i * n)).run P w = .ok a w) (hb : (part e ys (i * n)).run P w = .ok b w) (he : (Op.equalIn d e a b).run P w = .ok r w) : (eqElems d e n xs ys [i]).run P w = .ok r w := by
  simp only [eqElems, Sem.run_bind, ha, hb, he, Result.andThen_ok]
  cases r <;> simp
theorem eqe_cons (ha : (part e xs (i * n)).run P w = .ok a w) (hb : (part e ys (i * n)).run P w = .ok b w) (he : (Op.equalIn d e a b).run P w = .ok r w) (hr : (eqElems d e n xs ys is).run P w = .ok s w) : (eqElems d e n xs ys (i :: is)).run P w = .ok (r && s) w := by
  rw [eqElems]; simp only [Sem.run_bind, ha, hb, he, Result.andThen_ok]
  cases r
  · simp
  · simpa using hr
end
theorem full_run {P : Program} {k : IntKind} {W : World} {A : Option Addr} {n : Nat} {xs : List Int} (p : Int) (t ty e : TypeId) (z : Value) (bytes : Nat)
    (ht : P.underlying t = some (.slice e)) (hinfo : (P.info? e).map (fun i => (i.zero, i.size, i.bytes)) = some (some z, 1, bytes)) (hz : z.cells.size = 1) (hb0 : 0 < bytes)
    (HR : Kd.C (Kd.int k) W A n xs) (hl : (xs.length + 1) * bytes ≤ 140737488355328) :
    ∃ v1 w1, (Builtin.append_ #[t, t] ty #[.slice A n n, .slice (some ⟨W.heap.size, 0, none⟩) 1 1]).run P (W.alloc (.cells #[.int k p] e)) = .ok v1 w1 ∧ w1.ownsRow W.heap.size e 1 v1 (xs ++ [p]).length (encs (Value.int k) (xs ++ [p])) ∧ (W.alloc (.cells #[.int k p] e)).grownBy w1 none := by
  obtain ⟨i0, hi, hzz⟩ := Option.map_eq_some_iff.1 hinfo; simp only [Prod.mk.injEq] at hzz; obtain ⟨hz0, hz1, hz2⟩ := hzz; have hm : xs.length = n := HR.1; have hlen : n + 1 ≤ 140737488355328 := by rw [← hm]; exact Nat.le_trans (Nat.le_mul_of_pos_right _ hb0) hl
  have hnew : ∀ j u, ([.int k p] : List Value)[j]? = some u → (W.alloc (.cells #[.int k p] e)).cell? ((⟨W.heap.size, 0, none⟩ : Addr).add j) = some u := fun j u hj => by
    rw [add_plain]; exact (blk_cell (blk_new W (.cells #[.int k p] e (0, 0))) j).trans (by simpa using hj)
  rcases A with _ | ad
  · have h0 : n = 0 := by
      rcases Nat.eq_zero_or_pos n with h0 | h0
      · exact h0
      · obtain ⟨ad, h, _⟩ := HR.2.2 h0
        cases h
    subst h0; obtain rfl : xs = [] := List.eq_nil_of_length_eq_zero hm; obtain ⟨v', w', hrun, hown, hg, _⟩ := run_append_own (P := P) (W.alloc (.cells #[.int k p] e)) W.heap.size t ty e i0 z 1 bytes ht hi hz0 hz1 hz2 hz (by decide) (.slice none 0 0) 0 [] ⟨rfl, .inl ⟨rfl, rfl⟩⟩ ⟨W.heap.size, 0, none⟩ 1 1 [.int k p] rfl hnew (by simp [Value.oneCell']) (by simp only [maxLen]; omega) (by simpa using hl) (by simp); exact ⟨v', w', hrun, by simpa [encs] using hown, hg⟩
  · obtain ⟨olds, hnr, hnc⟩ := ReadsRow.inner_ HR; have ho : olds = encs (Value.int k) xs := by
      apply List.ext_getElem?
      intro j
      by_cases hj : j < xs.length
      · have := hnr.2 j _ (List.getElem?_eq_getElem hj); have h1 : (olds.drop (j * 1)).take 1 = [Value.int k xs[j]] := this; have h2 : olds[j]? = some (Value.int k xs[j]) := by
          have h3 := congrArg (fun l => l[0]?) h1
          simpa [List.getElem?_take, List.getElem?_drop] using h3
        rw [h2]
        simp [encs, List.getElem?_eq_getElem hj]
      · have hol : olds.length = xs.length := by have h_ := hnr.1; rw [h_]; exact Nat.mul_one _
        rw [List.getElem?_eq_none (by omega), List.getElem?_eq_none (by simp [encs]; omega)]
    obtain ⟨v', w', hrun, hown, hg⟩ := run_append_arg_grows (P := P) (W.alloc (.cells #[.int k p] e)) t ty e i0 z 1 bytes ht hi hz0 hz1 hz2 hz (by decide) ad n n olds (by rw [ho]; simp [encs, hm])
      (fun j u hj => ((below_alloc (Below.refl _ W) _).cell (World.block_lt_of_cell? W _ (hnc j u hj))).trans (hnc j u hj)) ⟨W.heap.size, 0, none⟩ 1 1 [.int k p] rfl hnew (by omega) (by simp only [maxLen]; omega) (by rw [← hm]; exact hl)
    refine ⟨v', w', hrun, ?_, hg⟩; have := own_weaken hown (show W.heap.size ≤ _ by simp); rw [ho] at this
    simpa [encs, hm] using this
section
variable {P : Program} {ops : Array Oper} {rest : List Oper} {o : Oper} {a : Act} {Q : Exit → Act → World → Prop} {Kc : Act → World → Prop}
theorem full_row {k : IntKind} {W w0 : World} {base : Nat} {ok : Nat → Prop} {p : Int} {xs : List Int} {e : TypeId} {v1 : Value} {w1 : World} (hfresh : ∀ k, W.heap.size ≤ k → ok k) (HB : Below base w0 W) (hbase : base ≤ W.heap.size)
    (hown : w1.ownsRow W.heap.size e 1 v1 (xs ++ [p]).length (encs (Value.int k) (xs ++ [p]))) (hg : (W.alloc (.cells #[.int k p] e)).grownBy w1 none) :
    Kd.R (Kd.int k) e w1 base ok v1 (xs ++ [p]) ∧ Below base w0 w1 ∧ W.grownBy w1 (Value.slice none 0 0).ownBlock ∧ (v1.ownBlock = (Value.slice none 0 0).ownBlock ∨ ∃ b, v1.ownBlock = some b ∧ W.heap.size ≤ b) := by
  have hgW : W.grownBy w1 none := by
    have h1 := World.grownBy_alloc W (.cells #[.int k p] e) none; exact ⟨hg.os.trans h1.os, hg.tape.trans h1.tape, hg.output.trans h1.output, Nat.le_trans h1.size hg.size, fun j hj hn => (hg.block j (Nat.lt_of_lt_of_le hj h1.size) hn).trans (h1.block j hj hn)⟩
  have hb : ∃ b, v1.ownBlock = some b ∧ W.heap.size ≤ b := by
    rcases hown.2 with ⟨_, h0⟩ | ⟨g, cap, cur, rfl, hb, _⟩
    · simp [encs] at h0
    · exact ⟨g, rfl, hb⟩
  refine ⟨Kd.R_of_own (enc := Value.int k) (own_weaken hown hbase) (fun j hj => ?_), HB.grown hgW hbase (fun j hj => by cases hj), hgW, .inr hb⟩; obtain ⟨b, h1, h2⟩ := hb; rw [h1] at hj
  injection hj with hj
  exact hfresh j (by omega)
theorem Kd.R_append_full (k : IntKind) {w0 W : World} (base : Nat) (hgd : o.guard = none) (s x : Operand) (t e : TypeId) (z : Value) (bytes : Nat)
    (ho : o.op = .call { callee := .builtin .append, args := #[s, x], argTypes := #[t, t] })
    (ht : P.underlying t = some (.slice e)) (hinfo : (P.info? e).map (fun i => (i.zero, i.size, i.bytes)) = some (some z, 1, bytes)) (hz : z.cells.size = 1) (hb0 : 0 < bytes)
    (A : Option Addr) (n : Nat) (xs : List Int) (p : Int) (ok : Nat → Prop) (hs : a.eval s = .slice A n n) (hx : a.eval x = .slice (some ⟨W.heap.size, 0, none⟩) 1 1)
    (HR : Kd.C (Kd.int k) W A n xs) (hfresh : ∀ k, W.heap.size ≤ k → ok k) (HB : Below base w0 W) (hbase : base ≤ W.heap.size) (hl : (xs.length + 1) * bytes ≤ 140737488355328)
    (h : ∀ v1 w1, Kd.R (Kd.int k) e w1 base ok v1 (xs ++ [p]) → Below base w0 w1 → W.grownBy w1 (Value.slice none 0 0).ownBlock → (v1.ownBlock = (Value.slice none 0 0).ownBlock ∨ ∃ b, v1.ownBlock = some b ∧ W.heap.size ≤ b) → wpList P ops Q rest (a.put o.dst v1) w1) :
    wpList P ops Q (o :: rest) a (W.alloc (.cells #[.int k p] e)) := by
  obtain ⟨v1, w1, hr1, hown, hg⟩ := full_run p t o.type e z bytes ht hinfo hz hb0 HR hl; obtain ⟨h1, h2, h3, h4⟩ := full_row (ok := ok) hfresh HB hbase hown hg; refine wpList_plain hgd fun K hK => ?_; unfold Oper.wp execOp; simp only [ho, resolve, invoke, builtin, Sem.run_bind, Sem.run_pure, Result.andThen_ok, List.map_toArray, List.map_cons, List.map_nil, hs, hx, hr1]; exact hK _ _ (h v1 w1 h1 h2 h3 h4)
theorem Kd.R_append_full_step (k : IntKind) {w0 W : World} (base : Nat) (hw : Region.wanted o (yielded ops a.tmps) = true) (s x : Operand) (t e : TypeId) (z : Value) (bytes : Nat)
    (ho : o.op = .call { callee := .builtin .append, args := #[s, x], argTypes := #[t, t] })
    (ht : P.underlying t = some (.slice e)) (hinfo : (P.info? e).map (fun i => (i.zero, i.size, i.bytes)) = some (some z, 1, bytes)) (hz : z.cells.size = 1) (hb0 : 0 < bytes)
    (A : Option Addr) (n : Nat) (xs : List Int) (p : Int) (ok : Nat → Prop) (hs : a.eval s = .slice A n n) (hx : a.eval x = .slice (some ⟨W.heap.size, 0, none⟩) 1 1)
    (HR : Kd.C (Kd.int k) W A n xs) (hfresh : ∀ k, W.heap.size ≤ k → ok k) (HB : Below base w0 W) (hbase : base ≤ W.heap.size) (hl : (xs.length + 1) * bytes ≤ 140737488355328)
    (h : ∀ v1 w1, Kd.R (Kd.int k) e w1 base ok v1 (xs ++ [p]) → Below base w0 w1 → W.grownBy w1 (Value.slice none 0 0).ownBlock → (v1.ownBlock = (Value.slice none 0 0).ownBlock ∨ ∃ b, v1.ownBlock = some b ∧ W.heap.size ≤ b) → Kc (a.put o.dst v1) w1) :
    if Region.wanted o (yielded ops a.tmps) = true then Oper.wp P o a (W.alloc (.cells #[.int k p] e)) Kc Q else Kc (a.put o.dst undef) (W.alloc (.cells #[.int k p] e)) := by
  obtain ⟨v1, w1, hr1, hown, hg⟩ := full_run p t o.type e z bytes ht hinfo hz hb0 HR hl; obtain ⟨h1, h2, h3, h4⟩ := full_row (ok := ok) hfresh HB hbase hown hg; rw [if_pos hw]; unfold Oper.wp execOp; simp only [ho, resolve, invoke, builtin, Sem.run_bind, Sem.run_pure, Result.andThen_ok, List.map_toArray, List.map_cons, List.map_nil, hs, hx, hr1]; exact h v1 w1 h1 h2 h3 h4
end
theorem cut_full {P : Program} (t e : TypeId) {i : TypeInfo} (ht : P.underlying t = some (.slice e)) (hi : P.info? e = some i) (A : Option Addr) (n c : Nat) (hc : n ≤ c) :
    ∀ W : World, (Instr.slice t (.slice A n c) none (some (.int .i64 (n : Int))) (some (.int .i64 (n : Int)))).run P W = .ok (.slice A n n) W := by
  intro W; have hel : P.elem t = e := by simp [Program.elem, ht]
  have ha : (A.map fun x => x.add 0) = A := by cases A <;> simp [Addr.add]
  simp [Instr.slice, run_underlying ht, Instr.sliceBounds, run_sliceBound, sliced, hel, sizeOf, typeInfo, hi, Result.andThen, ha, hc]
theorem full_rows_run {P : Program} {k : IntKind} {W : World} {A B : Option Addr} {n m c : Nat} {xs ys : List Int} (t ty e : TypeId) (z : Value) (bytes : Nat)
    (ht : P.underlying t = some (.slice e)) (hinfo : (P.info? e).map (fun i => (i.zero, i.size, i.bytes)) = some (some z, 1, bytes)) (hz : z.cells.size = 1) (hb0 : 0 < bytes)
    (HR : Kd.C (Kd.int k) W A n xs) (HR2 : Kd.C (Kd.int k) W B m ys) (hy : ys ≠ []) (hl : (xs.length + ys.length) * bytes ≤ 140737488355328) :
    ∃ v1 w1, (Builtin.append_ #[t, t] ty #[.slice A n n, .slice B m c]).run P W = .ok v1 w1 ∧ w1.ownsRow W.heap.size e 1 v1 (xs ++ ys).length (encs (Value.int k) (xs ++ ys)) ∧ W.grownBy w1 none := by
  obtain ⟨i0, hi, hzz⟩ := Option.map_eq_some_iff.1 hinfo; simp only [Prod.mk.injEq] at hzz; obtain ⟨hz0, hz1, hz2⟩ := hzz; have hn : xs.length = n := HR.1; have hm : ys.length = m := HR2.1; have hyl : 0 < ys.length := List.length_pos_iff.2 hy; have hlen : xs.length + ys.length ≤ 140737488355328 := Nat.le_trans (Nat.le_mul_of_pos_right _ hb0) hl; have flat : ∀ {C : Option Addr} {q : Nat} {zs : List Int}, Kd.C (Kd.int k) W C q zs → 0 < q → ∃ ad, C = some ad ∧ ∀ j u, (encs (Value.int k) zs)[j]? = some u → W.cell? (ad.add j) = some u := by
    intro C q zs h hq; obtain ⟨ad, rfl, _⟩ := h.2.2 hq; obtain ⟨olds, hnr, hnc⟩ := ReadsRow.inner_ h; have ho : olds = encs (Value.int k) zs := by
      apply List.ext_getElem?
      intro j
      by_cases hj : j < zs.length
      · have := hnr.2 j _ (List.getElem?_eq_getElem hj); have h1 : (olds.drop (j * 1)).take 1 = [Value.int k zs[j]] := this; have h2 : olds[j]? = some (Value.int k zs[j]) := by
          have h3 := congrArg (fun l => l[0]?) h1
          simpa [List.getElem?_take, List.getElem?_drop] using h3
        rw [h2]
        simp [encs, List.getElem?_eq_getElem hj]
      · have hol : olds.length = zs.length := by have h_ := hnr.1; rw [h_]; exact Nat.mul_one _
        rw [List.getElem?_eq_none (by omega), List.getElem?_eq_none (by simp [encs]; omega)]
    exact ⟨ad, rfl, fun j u hj => hnc j u (by rw [ho]; exact hj)⟩
  obtain ⟨bd, rfl, hnew⟩ := flat HR2 (by omega); have hone : ∀ u ∈ encs (Value.int k) ys, u.oneCell' = true := by
    intro u hu; obtain ⟨x, _, rfl⟩ := List.mem_map.1 hu
    rfl
  rcases Nat.eq_zero_or_pos n with h0 | hp
  · obtain rfl : xs = [] := List.eq_nil_of_length_eq_zero (by omega); subst h0
    rcases A with _ | ad
    · obtain ⟨v', w', hrun, hown, hg, _⟩ := run_append_own (P := P) W W.heap.size t ty e i0 z 1 bytes ht hi hz0 hz1 hz2 hz (by decide) (.slice none 0 0) 0 [] ⟨rfl, .inl ⟨rfl, rfl⟩⟩ bd m c (encs (Value.int k) ys) (by simp [encs, hm]) hnew hone (by simp only [maxLen]; simp at hlen; omega) (by simpa [hm] using hl) (Nat.le_refl _); exact ⟨v', w', hrun, by simpa [encs, hm] using hown, hg⟩
    · obtain ⟨v', w', hrun, hown, hg⟩ := run_append_arg_grows (P := P) W t ty e i0 z 1 bytes ht hi hz0 hz1 hz2 hz (by decide) ad 0 0 [] rfl (fun j u hj => by simp at hj) bd m c (encs (Value.int k) ys) (by simp [encs, hm]) hnew (by omega) (by simp only [maxLen]; simp at hlen; omega) (by simpa [hm] using hl); exact ⟨v', w', hrun, by simpa [encs, hm] using hown, hg⟩
  · obtain ⟨ad, rfl, hold⟩ := flat HR hp; obtain ⟨v', w', hrun, hown, hg⟩ := run_append_arg_grows (P := P) W t ty e i0 z 1 bytes ht hi hz0 hz1 hz2 hz (by decide) ad n n (encs (Value.int k) xs) (by simp [encs, hn]) hold bd m c (encs (Value.int k) ys) (by simp [encs, hm]) hnew (by omega) (by simp only [maxLen]; omega) (by rw [← hn, ← hm]; exact hl); exact ⟨v', w', hrun, by simpa [encs, hn, hm] using hown, hg⟩
theorem full_rows_row {k : IntKind} {W w0 : World} {base : Nat} {ok : Nat → Prop} {xs : List Int} {e : TypeId} {v1 : Value} {w1 : World} (hx : xs ≠ []) (hfresh : ∀ k, W.heap.size ≤ k → ok k) (HB : Below base w0 W) (hbase : base ≤ W.heap.size)
    (hown : w1.ownsRow W.heap.size e 1 v1 xs.length (encs (Value.int k) xs)) (hg : W.grownBy w1 none) :
    Kd.R (Kd.int k) e w1 base ok v1 xs ∧ Below base w0 w1 ∧ W.grownBy w1 (Value.slice none 0 0).ownBlock ∧ (v1.ownBlock = (Value.slice none 0 0).ownBlock ∨ ∃ b, v1.ownBlock = some b ∧ W.heap.size ≤ b) := by
  have hb : ∃ b, v1.ownBlock = some b ∧ W.heap.size ≤ b := by
    rcases hown.2 with ⟨_, h0⟩ | ⟨g, cap, cur, rfl, hb, _⟩
    · exact absurd (List.eq_nil_of_length_eq_zero h0) hx
    · exact ⟨g, rfl, hb⟩
  refine ⟨Kd.R_of_own (enc := Value.int k) (own_weaken hown hbase) (fun j hj => ?_), HB.grown hg hbase (fun j hj => by cases hj), hg, .inr hb⟩; obtain ⟨b, h1, h2⟩ := hb; rw [h1] at hj
  injection hj with hj
  exact hfresh j (by omega)
section
variable {P : Program} {ops : Array Oper} {rest : List Oper} {o : Oper} {a : Act} {Q : Exit → Act → World → Prop} {Kc : Act → World → Prop}
theorem Kd.R_append_full_rows (k : IntKind) {w0 W : World} (base : Nat) (hgd : o.guard = none) (s x : Operand) (t e : TypeId) (z : Value) (bytes : Nat)
    (ho : o.op = .call { callee := .builtin .append, args := #[s, x], argTypes := #[t, t] })
    (ht : P.underlying t = some (.slice e)) (hinfo : (P.info? e).map (fun i => (i.zero, i.size, i.bytes)) = some (some z, 1, bytes)) (hz : z.cells.size = 1) (hb0 : 0 < bytes)
    (A : Option Addr) (n : Nat) (xs ys : List Int) (vx : Value) (ok : Nat → Prop) {okx : Nat → Prop} {bx : Nat} (hs : a.eval s = .slice A n n) (hx : a.eval x = vx)
    (HR : Kd.C (Kd.int k) W A n xs) (HOx : Kd.R (Kd.int k) e W bx okx vx ys) (hy : ys ≠ []) (hfresh : ∀ k, W.heap.size ≤ k → ok k) (HB : Below base w0 W) (hbase : base ≤ W.heap.size) (hl : (xs.length + ys.length) * bytes ≤ 140737488355328)
    (h : ∀ v1 w1, Kd.R (Kd.int k) e w1 base ok v1 (xs ++ ys) → Below base w0 w1 → W.grownBy w1 (Value.slice none 0 0).ownBlock → (v1.ownBlock = (Value.slice none 0 0).ownBlock ∨ ∃ b, v1.ownBlock = some b ∧ W.heap.size ≤ b) → wpList P ops Q rest (a.put o.dst v1) w1) :
    wpList P ops Q (o :: rest) a W := by
  obtain ⟨B, c, rfl, hc, HR2⟩ := Kd.R_reads HOx; obtain ⟨v1, w1, hr1, hown, hg⟩ := full_rows_run (c := c) t o.type e z bytes ht hinfo hz hb0 HR HR2 hy hl; obtain ⟨h1, h2, h3, h4⟩ := full_rows_row (ok := ok) (by simp [hy]) hfresh HB hbase hown hg; refine wpList_plain hgd fun K hK => ?_; unfold Oper.wp execOp; simp only [ho, resolve, invoke, builtin, Sem.run_bind, Sem.run_pure, Result.andThen_ok, List.map_toArray, List.map_cons, List.map_nil, hs, hx, hr1]; exact hK _ _ (h v1 w1 h1 h2 h3 h4)
theorem Kd.R_append_full_rows_step (k : IntKind) {w0 W : World} (base : Nat) (hw : Region.wanted o (yielded ops a.tmps) = true) (s x : Operand) (t e : TypeId) (z : Value) (bytes : Nat)
    (ho : o.op = .call { callee := .builtin .append, args := #[s, x], argTypes := #[t, t] })
    (ht : P.underlying t = some (.slice e)) (hinfo : (P.info? e).map (fun i => (i.zero, i.size, i.bytes)) = some (some z, 1, bytes)) (hz : z.cells.size = 1) (hb0 : 0 < bytes)
    (A : Option Addr) (n : Nat) (xs ys : List Int) (vx : Value) (ok : Nat → Prop) {okx : Nat → Prop} {bx : Nat} (hs : a.eval s = .slice A n n) (hx : a.eval x = vx)
    (HR : Kd.C (Kd.int k) W A n xs) (HOx : Kd.R (Kd.int k) e W bx okx vx ys) (hy : ys ≠ []) (hfresh : ∀ k, W.heap.size ≤ k → ok k) (HB : Below base w0 W) (hbase : base ≤ W.heap.size) (hl : (xs.length + ys.length) * bytes ≤ 140737488355328)
    (h : ∀ v1 w1, Kd.R (Kd.int k) e w1 base ok v1 (xs ++ ys) → Below base w0 w1 → W.grownBy w1 (Value.slice none 0 0).ownBlock → (v1.ownBlock = (Value.slice none 0 0).ownBlock ∨ ∃ b, v1.ownBlock = some b ∧ W.heap.size ≤ b) → Kc (a.put o.dst v1) w1) :
    if Region.wanted o (yielded ops a.tmps) = true then Oper.wp P o a W Kc Q else Kc (a.put o.dst undef) W := by
  obtain ⟨B, c, rfl, hc, HR2⟩ := Kd.R_reads HOx; obtain ⟨v1, w1, hr1, hown, hg⟩ := full_rows_run (c := c) t o.type e z bytes ht hinfo hz hb0 HR HR2 hy hl; obtain ⟨h1, h2, h3, h4⟩ := full_rows_row (ok := ok) (by simp [hy]) hfresh HB hbase hown hg; rw [if_pos hw]; unfold Oper.wp execOp; simp only [ho, resolve, invoke, builtin, Sem.run_bind, Sem.run_pure, Result.andThen_ok, List.map_toArray, List.map_cons, List.map_nil, hs, hx, hr1]; exact h v1 w1 h1 h2 h3 h4
end
def ins (x : Int) : List Int → List Int
  | [] => [x]
  | y :: t => if x ≤ y then x :: y :: t else y :: ins x t
def isort : List Int → List Int
  | [] => []
  | x :: r => ins x (isort r)
theorem ins_perm (x : Int) : ∀ l : List Int, (ins x l).Perm (x :: l)
  | [] => List.Perm.refl _
  | y :: t => by
    unfold ins
    split
    · exact List.Perm.refl _
    · exact ((ins_perm x t).cons y).trans (List.Perm.swap x y t)
theorem isort_perm : ∀ l : List Int, (isort l).Perm l
  | [] => List.Perm.refl _
  | x :: r => (ins_perm x (isort r)).trans ((isort_perm r).cons x)
theorem ins_sorted (x : Int) : ∀ l : List Int, l.Pairwise (fun a b => a ≤ b) → (ins x l).Pairwise (fun a b => a ≤ b)
  | [], _ => List.pairwise_singleton _ _
  | y :: t, h => by
    unfold ins; obtain ⟨h1, h2⟩ := List.pairwise_cons.1 h
    split
    · rename_i hxy
      refine List.pairwise_cons.2 ⟨fun z hz => ?_, h⟩
      rcases List.mem_cons.1 hz with rfl | hz
      · exact hxy
      · exact Int.le_trans hxy (h1 z hz)
    · rename_i hxy
      refine List.pairwise_cons.2 ⟨fun z hz => ?_, ins_sorted x t h2⟩
      rcases List.mem_cons.1 ((ins_perm x t).mem_iff.1 hz) with rfl | hz
      · omega
      · exact h1 z hz
theorem isort_sorted : ∀ l : List Int, (isort l).Pairwise (fun a b => a ≤ b)
  | [] => List.Pairwise.nil
  | x :: r => ins_sorted x _ (isort_sorted r)
theorem isort_eq (l : List Int) : isort l = l.mergeSort fun x y => decide (x ≤ y) := by
  refine List.Perm.eq_of_pairwise (le := fun a b => a ≤ b) (fun a b _ _ h1 h2 => by omega) (isort_sorted l) ?_ ((isort_perm l).trans (List.mergeSort_perm _ _).symm); exact (List.pairwise_mergeSort (le := fun x y : Int => decide (x ≤ y)) (fun a b c h1 h2 => by simp only [decide_eq_true_eq] at *; omega) (fun a b => by simp only [Bool.or_eq_true, decide_eq_true_eq]; omega) l).imp (fun h => of_decide_eq_true h)
theorem info3 : (Try.prog.info? 3).map (fun i => (i.zero, i.size, i.bytes)) = some (some (.int .i64 0), 1, 8) := by kernel_rfl
theorem info26 : (Try.prog.info? 26).map (fun i => (i.zero, i.size, i.bytes)) = some (some (.int .i64 0), 1, 8) := by kernel_rfl
theorem info100 : (Try.prog.info? 100).map (fun i => (i.zero, i.size, i.bytes)) = some (some (.agg #[(.int .i64 0), (.int .i64 0)]), 2, 16) := by kernel_rfl
theorem info108 : (Try.prog.info? 108).map (fun i => (i.zero, i.size, i.bytes)) = some (some (.agg #[(.int .i64 0), (.int .i64 0), (.int .i64 0)]), 3, 24) := by kernel_rfl
theorem info112 : (Try.prog.info? 112).map (fun i => (i.zero, i.size, i.bytes)) = some (some (.agg #[(.int .i64 0), (.int .i64 0), (.int .i64 0)]), 3, 24) := by kernel_rfl
theorem info132 : (Try.prog.info? 132).map (fun i => (i.zero, i.size, i.bytes)) = some (some (.agg #[(.int .i64 0), (.slice none 0 0)]), 2, 32) := by kernel_rfl
theorem info138 : (Try.prog.info? 138).map (fun i => (i.zero, i.size, i.bytes)) = some (some (.agg #[(.int .i64 0), (.int .i64 0)]), 2, 16) := by kernel_rfl
theorem info143 : (Try.prog.info? 143).map (fun i => (i.zero, i.size, i.bytes)) = some (some (.agg #[(.int .i64 0), (.int .i64 0), (.int .i64 0), (.int .i64 0)]), 4, 32) := by kernel_rfl
structure S108 where
  f0 : Int
  f1 : Int
  f2 : Int
def z108 : S108 := ⟨(0 : Int), (0 : Int), (0 : Int)⟩
def k108 : Kd S108 := Kd.iso (Kd.pair (Kd.int .i64) (Kd.pair (Kd.int .i64) (Kd.int .i64))) (fun x : S108 => (x.f0, x.f1, x.f2))
theorem k108_heap : Kd.Heap k108 := Kd.heap_iso _ (Kd.heap_pair (Kd.heap_int .i64) (Kd.heap_pair (Kd.heap_int .i64) (Kd.heap_int .i64)))
theorem k108_open {w : World} {x : S108} {cs : List Value} (h : k108.K w x cs) : cs = [.int .i64 x.f0, .int .i64 x.f1, .int .i64 x.f2] := by
  obtain ⟨_, _, rfl, rfl, ⟨_, _, rfl, rfl, rfl⟩⟩ := h; exact rfl
theorem k108_openM {w : World} {base : Nat} {ok : Nat → Prop} {x : S108} {cs : List Value} (h : k108.M w base ok x cs) : cs = [.int .i64 x.f0, .int .i64 x.f1, .int .i64 x.f2] := by
  obtain ⟨_, _, rfl, rfl, ⟨_, _, rfl, rfl, rfl⟩⟩ := h; exact rfl
theorem k108_mk (w : World) (x : S108)  : k108.K w x [.int .i64 x.f0, .int .i64 x.f1, .int .i64 x.f2] := ⟨[.int .i64 x.f0], [.int .i64 x.f1, .int .i64 x.f2], rfl, rfl, ⟨[.int .i64 x.f1], [.int .i64 x.f2], rfl, rfl, rfl⟩⟩
theorem k108_mkM (w : World) (base : Nat) (ok : Nat → Prop) (x : S108)  : k108.M w base ok x [.int .i64 x.f0, .int .i64 x.f1, .int .i64 x.f2] := ⟨[.int .i64 x.f0], [.int .i64 x.f1, .int .i64 x.f2], rfl, rfl, ⟨[.int .i64 x.f1], [.int .i64 x.f2], rfl, rfl, rfl⟩⟩
theorem k108_mkF (W : World) (ok : Nat → Prop) (x : S108) : Kd.FK k108 W ok x [.int .i64 x.f0, .int .i64 x.f1, .int .i64 x.f2] := fun W2 _ => k108_mk W2 x
def rd_T108 (xs : List S108) (i : Int) : S108 := xs.getD i.toNat z108
theorem at_T108 {w : World} {A : Option Addr} {n : Nat} {xs : List S108} (h : Kd.C k108 w A n xs) (i : Int) (h0 : 0 ≤ i) (h1 : i < n) : ∃ ad , A = some ad ∧ w.cell? (ad.add (i.toNat * 3)) = some (.int .i64 (rd_T108 xs i).f0) ∧ w.cell? ⟨(ad.add (i.toNat * 3)).block, (ad.add (i.toNat * 3)).off + 1, none⟩ = some (.int .i64 (rd_T108 xs i).f1) ∧ w.cell? ⟨(ad.add (i.toNat * 3)).block, (ad.add (i.toNat * 3)).off + 2, none⟩ = some (.int .i64 (rd_T108 xs i).f2) := by
  obtain ⟨ad, c, e, _, hK, hc0⟩ := Kd.C_get h z108 i h0 h1; have hc : ∀ j u, c[j]? = some u → w.cell? (ad.add (i.toNat * 3 + j)) = some u := hc0; obtain rfl := k108_open hK; exact ⟨ad, e, hc 0 _ rfl, by rw [← add_field _ _ 1 (by omega)]; exact hc 1 _ rfl, by rw [← add_field _ _ 2 (by omega)]; exact hc 2 _ rfl⟩
structure S112 where
  f0 : Int
  f1 : Int
  f2 : Int
def z112 : S112 := ⟨(0 : Int), (0 : Int), (0 : Int)⟩
def k112 : Kd S112 := Kd.iso (Kd.pair (Kd.int .i64) (Kd.pair (Kd.int .i64) (Kd.int .i64))) (fun x : S112 => (x.f0, x.f1, x.f2))
theorem k112_heap : Kd.Heap k112 := Kd.heap_iso _ (Kd.heap_pair (Kd.heap_int .i64) (Kd.heap_pair (Kd.heap_int .i64) (Kd.heap_int .i64)))
theorem k112_open {w : World} {x : S112} {cs : List Value} (h : k112.K w x cs) : cs = [.int .i64 x.f0, .int .i64 x.f1, .int .i64 x.f2] := by
  obtain ⟨_, _, rfl, rfl, ⟨_, _, rfl, rfl, rfl⟩⟩ := h; exact rfl
theorem k112_openM {w : World} {base : Nat} {ok : Nat → Prop} {x : S112} {cs : List Value} (h : k112.M w base ok x cs) : cs = [.int .i64 x.f0, .int .i64 x.f1, .int .i64 x.f2] := by
  obtain ⟨_, _, rfl, rfl, ⟨_, _, rfl, rfl, rfl⟩⟩ := h; exact rfl
theorem k112_mk (w : World) (x : S112)  : k112.K w x [.int .i64 x.f0, .int .i64 x.f1, .int .i64 x.f2] := ⟨[.int .i64 x.f0], [.int .i64 x.f1, .int .i64 x.f2], rfl, rfl, ⟨[.int .i64 x.f1], [.int .i64 x.f2], rfl, rfl, rfl⟩⟩
theorem k112_mkM (w : World) (base : Nat) (ok : Nat → Prop) (x : S112)  : k112.M w base ok x [.int .i64 x.f0, .int .i64 x.f1, .int .i64 x.f2] := ⟨[.int .i64 x.f0], [.int .i64 x.f1, .int .i64 x.f2], rfl, rfl, ⟨[.int .i64 x.f1], [.int .i64 x.f2], rfl, rfl, rfl⟩⟩
theorem k112_mkF (W : World) (ok : Nat → Prop) (x : S112) : Kd.FK k112 W ok x [.int .i64 x.f0, .int .i64 x.f1, .int .i64 x.f2] := fun W2 _ => k112_mk W2 x
def rd_T112 (xs : List S112) (i : Int) : S112 := xs.getD i.toNat z112
theorem at_T112 {w : World} {A : Option Addr} {n : Nat} {xs : List S112} (h : Kd.C k112 w A n xs) (i : Int) (h0 : 0 ≤ i) (h1 : i < n) : ∃ ad , A = some ad ∧ w.cell? (ad.add (i.toNat * 3)) = some (.int .i64 (rd_T112 xs i).f0) ∧ w.cell? ⟨(ad.add (i.toNat * 3)).block, (ad.add (i.toNat * 3)).off + 1, none⟩ = some (.int .i64 (rd_T112 xs i).f1) ∧ w.cell? ⟨(ad.add (i.toNat * 3)).block, (ad.add (i.toNat * 3)).off + 2, none⟩ = some (.int .i64 (rd_T112 xs i).f2) := by
  obtain ⟨ad, c, e, _, hK, hc0⟩ := Kd.C_get h z112 i h0 h1; have hc : ∀ j u, c[j]? = some u → w.cell? (ad.add (i.toNat * 3 + j)) = some u := hc0; obtain rfl := k112_open hK; exact ⟨ad, e, hc 0 _ rfl, by rw [← add_field _ _ 1 (by omega)]; exact hc 1 _ rfl, by rw [← add_field _ _ 2 (by omega)]; exact hc 2 _ rfl⟩
def rd_L3 (xs : List (List Int)) (i : Int) : (List Int) := xs.getD i.toNat ([] : List Int)
theorem at_L3 {w : World} {A : Option Addr} {n : Nat} {xs : List (List Int)} (h : Kd.C (Kd.slice 3 (Kd.int .i64)) w A n xs) (i : Int) (h0 : 0 ≤ i) (h1 : i < n) : ∃ ad A0 c0, A = some ad ∧ w.cell? (ad.add i.toNat) = some (.slice A0 (rd_L3 xs i).length c0) ∧ (rd_L3 xs i).length ≤ c0 ∧ (Kd.int .i64).C w A0 (rd_L3 xs i).length (rd_L3 xs i) := by
  obtain ⟨ad, c, e, _, hK, hc0⟩ := Kd.C_get h ([] : List Int) i h0 h1; have hc : ∀ j u, c[j]? = some u → w.cell? (ad.add (i.toNat * 1 + j)) = some u := hc0; obtain ⟨A0, c0, rfl, l0, g0⟩ := hK; exact ⟨ad, A0, c0, e, by have hq := hc 0 _ rfl; rwa [Nat.mul_one, Nat.add_zero] at hq, l0, g0⟩
structure S132 where
  f0 : Int
  f1 : (List Int)
def z132 : S132 := ⟨(0 : Int), ([] : List Int)⟩
def k132 : Kd S132 := Kd.iso (Kd.pair (Kd.int .i64) (Kd.slice 3 (Kd.int .i64))) (fun x : S132 => (x.f0, x.f1))
theorem k132_heap : Kd.Heap k132 := Kd.heap_iso _ (Kd.heap_pair (Kd.heap_int .i64) (Kd.heap_slice 3 (Kd.heap_int .i64)))
theorem k132_open {w : World} {x : S132} {cs : List Value} (h : k132.K w x cs) : ∃ A1 c1, cs = [.int .i64 x.f0, .slice A1 x.f1.length c1] ∧ x.f1.length ≤ c1 ∧ (Kd.int .i64).C w A1 x.f1.length x.f1 := by
  obtain ⟨_, _, rfl, rfl, ⟨A1, c1, rfl, l1, g1⟩⟩ := h; exact ⟨A1, c1, rfl, l1, g1⟩
theorem k132_openM {w : World} {base : Nat} {ok : Nat → Prop} {x : S132} {cs : List Value} (h : k132.M w base ok x cs) : ∃ v1, cs = [.int .i64 x.f0, v1] ∧ (Kd.int .i64).R 3 w base ok v1 x.f1 := by
  obtain ⟨_, _, rfl, rfl, ⟨v1, rfl, g1⟩⟩ := h; exact ⟨v1, rfl, g1⟩
theorem k132_mk (w : World) (x : S132) {A1 : Option Addr} {c1 : Nat} (l1 : x.f1.length ≤ c1) (g1 : (Kd.int .i64).C w A1 x.f1.length x.f1) : k132.K w x [.int .i64 x.f0, .slice A1 x.f1.length c1] := ⟨[.int .i64 x.f0], [.slice A1 x.f1.length c1], rfl, rfl, ⟨A1, c1, rfl, l1, g1⟩⟩
theorem k132_mkM (w : World) (base : Nat) (ok : Nat → Prop) (x : S132) {v1 : Value} (g1 : (Kd.int .i64).R 3 w base ok v1 x.f1) : k132.M w base ok x [.int .i64 x.f0, v1] := ⟨[.int .i64 x.f0], [v1], rfl, rfl, ⟨v1, rfl, g1⟩⟩
theorem k132_openF {W : World} {ok : Nat → Prop} {x : S132} {cs : List Value} (h : Kd.FK k132 W ok x cs) : ∃ A1 c1, cs = [.int .i64 x.f0, .slice A1 x.f1.length c1] ∧ x.f1.length ≤ c1 ∧ Kd.F (Kd.int .i64) W ok A1 x.f1.length x.f1 := by
  obtain ⟨A1, c1, rfl, l1, _⟩ := k132_open (Kd.FK_now h); exact ⟨A1, c1, rfl, l1, (fun W' hW => by obtain ⟨A1_, c1_, he, l1_, g1_⟩ := k132_open (h W' hW); injection (Option.some.inj (show some (Value.slice A1 x.f1.length c1) = some (Value.slice A1_ x.f1.length c1_) from congrArg (fun l => l[1]?) he)) with ha_ _ _; rw [ha_]; exact g1_)⟩
theorem k132_mkF (W : World) (ok : Nat → Prop) (x : S132) {A1 : Option Addr} {c1 : Nat} (l1 : x.f1.length ≤ c1) (g1 : Kd.F (Kd.int .i64) W ok A1 x.f1.length x.f1) : Kd.FK k132 W ok x [.int .i64 x.f0, .slice A1 x.f1.length c1] := fun W2 hW => k132_mk W2 x l1 (g1 W2 hW)
def rd_T132 (xs : List S132) (i : Int) : S132 := xs.getD i.toNat z132
theorem at_T132 {w : World} {A : Option Addr} {n : Nat} {xs : List S132} (h : Kd.C k132 w A n xs) (i : Int) (h0 : 0 ≤ i) (h1 : i < n) : ∃ ad A1 c1, A = some ad ∧ w.cell? (ad.add (i.toNat * 2)) = some (.int .i64 (rd_T132 xs i).f0) ∧ w.cell? ⟨(ad.add (i.toNat * 2)).block, (ad.add (i.toNat * 2)).off + 1, none⟩ = some (.slice A1 (rd_T132 xs i).f1.length c1) ∧ (rd_T132 xs i).f1.length ≤ c1 ∧ (Kd.int .i64).C w A1 (rd_T132 xs i).f1.length (rd_T132 xs i).f1 := by
  obtain ⟨ad, c, e, _, hK, hc0⟩ := Kd.C_get h z132 i h0 h1; have hc : ∀ j u, c[j]? = some u → w.cell? (ad.add (i.toNat * 2 + j)) = some u := hc0; obtain ⟨A1, c1, rfl, l1, g1⟩ := k132_open hK; exact ⟨ad, A1, c1, e, hc 0 _ rfl, by rw [← add_field _ _ 1 (by omega)]; exact hc 1 _ rfl, l1, g1⟩
structure S100 where
  f0 : Int
  f1 : Int
def z100 : S100 := ⟨(0 : Int), (0 : Int)⟩
def k100 : Kd S100 := Kd.iso (Kd.pair (Kd.int .i64) (Kd.int .i64)) (fun x : S100 => (x.f0, x.f1))
theorem k100_heap : Kd.Heap k100 := Kd.heap_iso _ (Kd.heap_pair (Kd.heap_int .i64) (Kd.heap_int .i64))
theorem k100_open {w : World} {x : S100} {cs : List Value} (h : k100.K w x cs) : cs = [.int .i64 x.f0, .int .i64 x.f1] := by
  obtain ⟨_, _, rfl, rfl, rfl⟩ := h; exact rfl
theorem k100_openM {w : World} {base : Nat} {ok : Nat → Prop} {x : S100} {cs : List Value} (h : k100.M w base ok x cs) : cs = [.int .i64 x.f0, .int .i64 x.f1] := by
  obtain ⟨_, _, rfl, rfl, rfl⟩ := h; exact rfl
theorem k100_mk (w : World) (x : S100)  : k100.K w x [.int .i64 x.f0, .int .i64 x.f1] := ⟨[.int .i64 x.f0], [.int .i64 x.f1], rfl, rfl, rfl⟩
theorem k100_mkM (w : World) (base : Nat) (ok : Nat → Prop) (x : S100)  : k100.M w base ok x [.int .i64 x.f0, .int .i64 x.f1] := ⟨[.int .i64 x.f0], [.int .i64 x.f1], rfl, rfl, rfl⟩
theorem k100_mkF (W : World) (ok : Nat → Prop) (x : S100) : Kd.FK k100 W ok x [.int .i64 x.f0, .int .i64 x.f1] := fun W2 _ => k100_mk W2 x
def rd_T100 (xs : List S100) (i : Int) : S100 := xs.getD i.toNat z100
theorem at_T100 {w : World} {A : Option Addr} {n : Nat} {xs : List S100} (h : Kd.C k100 w A n xs) (i : Int) (h0 : 0 ≤ i) (h1 : i < n) : ∃ ad , A = some ad ∧ w.cell? (ad.add (i.toNat * 2)) = some (.int .i64 (rd_T100 xs i).f0) ∧ w.cell? ⟨(ad.add (i.toNat * 2)).block, (ad.add (i.toNat * 2)).off + 1, none⟩ = some (.int .i64 (rd_T100 xs i).f1) := by
  obtain ⟨ad, c, e, _, hK, hc0⟩ := Kd.C_get h z100 i h0 h1; have hc : ∀ j u, c[j]? = some u → w.cell? (ad.add (i.toNat * 2 + j)) = some u := hc0; obtain rfl := k100_open hK; exact ⟨ad, e, hc 0 _ rfl, by rw [← add_field _ _ 1 (by omega)]; exact hc 1 _ rfl⟩
structure S138 where
  f0 : Int
  f1 : Int
def z138 : S138 := ⟨(0 : Int), (0 : Int)⟩
def k138 : Kd S138 := Kd.iso (Kd.pair (Kd.int .i64) (Kd.int .i64)) (fun x : S138 => (x.f0, x.f1))
theorem k138_heap : Kd.Heap k138 := Kd.heap_iso _ (Kd.heap_pair (Kd.heap_int .i64) (Kd.heap_int .i64))
theorem k138_open {w : World} {x : S138} {cs : List Value} (h : k138.K w x cs) : cs = [.int .i64 x.f0, .int .i64 x.f1] := by
  obtain ⟨_, _, rfl, rfl, rfl⟩ := h; exact rfl
theorem k138_openM {w : World} {base : Nat} {ok : Nat → Prop} {x : S138} {cs : List Value} (h : k138.M w base ok x cs) : cs = [.int .i64 x.f0, .int .i64 x.f1] := by
  obtain ⟨_, _, rfl, rfl, rfl⟩ := h; exact rfl
theorem k138_mk (w : World) (x : S138)  : k138.K w x [.int .i64 x.f0, .int .i64 x.f1] := ⟨[.int .i64 x.f0], [.int .i64 x.f1], rfl, rfl, rfl⟩
theorem k138_mkM (w : World) (base : Nat) (ok : Nat → Prop) (x : S138)  : k138.M w base ok x [.int .i64 x.f0, .int .i64 x.f1] := ⟨[.int .i64 x.f0], [.int .i64 x.f1], rfl, rfl, rfl⟩
theorem k138_mkF (W : World) (ok : Nat → Prop) (x : S138) : Kd.FK k138 W ok x [.int .i64 x.f0, .int .i64 x.f1] := fun W2 _ => k138_mk W2 x
def rd_T138 (xs : List S138) (i : Int) : S138 := xs.getD i.toNat z138
theorem at_T138 {w : World} {A : Option Addr} {n : Nat} {xs : List S138} (h : Kd.C k138 w A n xs) (i : Int) (h0 : 0 ≤ i) (h1 : i < n) : ∃ ad , A = some ad ∧ w.cell? (ad.add (i.toNat * 2)) = some (.int .i64 (rd_T138 xs i).f0) ∧ w.cell? ⟨(ad.add (i.toNat * 2)).block, (ad.add (i.toNat * 2)).off + 1, none⟩ = some (.int .i64 (rd_T138 xs i).f1) := by
  obtain ⟨ad, c, e, _, hK, hc0⟩ := Kd.C_get h z138 i h0 h1; have hc : ∀ j u, c[j]? = some u → w.cell? (ad.add (i.toNat * 2 + j)) = some u := hc0; obtain rfl := k138_open hK; exact ⟨ad, e, hc 0 _ rfl, by rw [← add_field _ _ 1 (by omega)]; exact hc 1 _ rfl⟩
structure S54 where
  f0 : Int
  f1 : Int
def z54 : S54 := ⟨(0 : Int), (0 : Int)⟩
def k54 : Kd S54 := Kd.iso (Kd.pair (Kd.int .i64) (Kd.int .i64)) (fun x : S54 => (x.f0, x.f1))
theorem k54_heap : Kd.Heap k54 := Kd.heap_iso _ (Kd.heap_pair (Kd.heap_int .i64) (Kd.heap_int .i64))
theorem k54_open {w : World} {x : S54} {cs : List Value} (h : k54.K w x cs) : cs = [.int .i64 x.f0, .int .i64 x.f1] := by
  obtain ⟨_, _, rfl, rfl, rfl⟩ := h; exact rfl
theorem k54_openM {w : World} {base : Nat} {ok : Nat → Prop} {x : S54} {cs : List Value} (h : k54.M w base ok x cs) : cs = [.int .i64 x.f0, .int .i64 x.f1] := by
  obtain ⟨_, _, rfl, rfl, rfl⟩ := h; exact rfl
theorem k54_mk (w : World) (x : S54)  : k54.K w x [.int .i64 x.f0, .int .i64 x.f1] := ⟨[.int .i64 x.f0], [.int .i64 x.f1], rfl, rfl, rfl⟩
theorem k54_mkM (w : World) (base : Nat) (ok : Nat → Prop) (x : S54)  : k54.M w base ok x [.int .i64 x.f0, .int .i64 x.f1] := ⟨[.int .i64 x.f0], [.int .i64 x.f1], rfl, rfl, rfl⟩
theorem k54_mkF (W : World) (ok : Nat → Prop) (x : S54) : Kd.FK k54 W ok x [.int .i64 x.f0, .int .i64 x.f1] := fun W2 _ => k54_mk W2 x
def rd_T54 (xs : List S54) (i : Int) : S54 := xs.getD i.toNat z54
theorem at_T54 {w : World} {A : Option Addr} {n : Nat} {xs : List S54} (h : Kd.C k54 w A n xs) (i : Int) (h0 : 0 ≤ i) (h1 : i < n) : ∃ ad , A = some ad ∧ w.cell? (ad.add (i.toNat * 2)) = some (.int .i64 (rd_T54 xs i).f0) ∧ w.cell? ⟨(ad.add (i.toNat * 2)).block, (ad.add (i.toNat * 2)).off + 1, none⟩ = some (.int .i64 (rd_T54 xs i).f1) := by
  obtain ⟨ad, c, e, _, hK, hc0⟩ := Kd.C_get h z54 i h0 h1; have hc : ∀ j u, c[j]? = some u → w.cell? (ad.add (i.toNat * 2 + j)) = some u := hc0; obtain rfl := k54_open hK; exact ⟨ad, e, hc 0 _ rfl, by rw [← add_field _ _ 1 (by omega)]; exact hc 1 _ rfl⟩
structure S143 where
  f0 : S54
  f1 : S54
def z143 : S143 := ⟨z54, z54⟩
def k143 : Kd S143 := Kd.iso (Kd.pair k54 k54) (fun x : S143 => (x.f0, x.f1))
theorem k143_heap : Kd.Heap k143 := Kd.heap_iso _ (Kd.heap_pair k54_heap k54_heap)
theorem k143_open {w : World} {x : S143} {cs : List Value} (h : k143.K w x cs) : cs = [.int .i64 x.f0.f0, .int .i64 x.f0.f1, .int .i64 x.f1.f0, .int .i64 x.f1.f1] := by
  obtain ⟨_, _, rfl, s0, s2⟩ := h; obtain rfl := k54_open s0; obtain rfl := k54_open s2; exact rfl
theorem k143_openM {w : World} {base : Nat} {ok : Nat → Prop} {x : S143} {cs : List Value} (h : k143.M w base ok x cs) : cs = [.int .i64 x.f0.f0, .int .i64 x.f0.f1, .int .i64 x.f1.f0, .int .i64 x.f1.f1] := by
  obtain ⟨_, _, rfl, s0, s2⟩ := h; obtain rfl := k54_openM s0; obtain rfl := k54_openM s2; exact rfl
theorem k143_mk (w : World) (x : S143)  : k143.K w x [.int .i64 x.f0.f0, .int .i64 x.f0.f1, .int .i64 x.f1.f0, .int .i64 x.f1.f1] := ⟨[.int .i64 x.f0.f0, .int .i64 x.f0.f1], [.int .i64 x.f1.f0, .int .i64 x.f1.f1], rfl, (k54_mk w x.f0 ), (k54_mk w x.f1 )⟩
theorem k143_mkM (w : World) (base : Nat) (ok : Nat → Prop) (x : S143)  : k143.M w base ok x [.int .i64 x.f0.f0, .int .i64 x.f0.f1, .int .i64 x.f1.f0, .int .i64 x.f1.f1] := ⟨[.int .i64 x.f0.f0, .int .i64 x.f0.f1], [.int .i64 x.f1.f0, .int .i64 x.f1.f1], rfl, (k54_mkM w base ok x.f0 ), (k54_mkM w base ok x.f1 )⟩
theorem k143_mkF (W : World) (ok : Nat → Prop) (x : S143) : Kd.FK k143 W ok x [.int .i64 x.f0.f0, .int .i64 x.f0.f1, .int .i64 x.f1.f0, .int .i64 x.f1.f1] := fun W2 _ => k143_mk W2 x
def rd_T143 (xs : List S143) (i : Int) : S143 := xs.getD i.toNat z143
theorem at_T143 {w : World} {A : Option Addr} {n : Nat} {xs : List S143} (h : Kd.C k143 w A n xs) (i : Int) (h0 : 0 ≤ i) (h1 : i < n) : ∃ ad , A = some ad ∧ w.cell? (ad.add (i.toNat * 4)) = some (.int .i64 (rd_T143 xs i).f0.f0) ∧ w.cell? ⟨(ad.add (i.toNat * 4)).block, (ad.add (i.toNat * 4)).off + 1, none⟩ = some (.int .i64 (rd_T143 xs i).f0.f1) ∧ w.cell? ⟨(ad.add (i.toNat * 4)).block, (ad.add (i.toNat * 4)).off + 2, none⟩ = some (.int .i64 (rd_T143 xs i).f1.f0) ∧ w.cell? ⟨(ad.add (i.toNat * 4)).block, (ad.add (i.toNat * 4)).off + 3, none⟩ = some (.int .i64 (rd_T143 xs i).f1.f1) := by
  obtain ⟨ad, c, e, _, hK, hc0⟩ := Kd.C_get h z143 i h0 h1; have hc : ∀ j u, c[j]? = some u → w.cell? (ad.add (i.toNat * 4 + j)) = some u := hc0; obtain rfl := k143_open hK; exact ⟨ad, e, hc 0 _ rfl, by rw [← add_field _ _ 1 (by omega)]; exact hc 1 _ rfl, by rw [← add_field _ _ 2 (by omega)]; exact hc 2 _ rfl, by rw [← add_field _ _ 3 (by omega)]; exact hc 3 _ rfl⟩
end
section
def L_first.l0 : Nat → List Int → Int → Int → Option (Int)
 | 0, _, _, _ => none
 | k + 1, x5, x6, x7 => if x7 < x6 then (if 0 ≤ x7 then (if x7 < (x5.length : Int) then (if (rd x5 x7) = 0 then (L_first.l0 k x5 x6 (wrap64 (x7 + 1))) else (some (rd x5 x7))) else (none)) else (none)) else (some 0)
def L_first.f (k : Nat) (l0 : List Int) : Option (Int) := L_first.l0 k l0 (l0.length : Int) 0
theorem L_first.mono_l : ∀ k, (∀ y0 y1 y2, LeO (L_first.l0 k y0 y1 y2) (L_first.l0 (k + 1) y0 y1 y2))
 | 0 => fun _ _ _ r h => by simp [L_first.l0] at h
 | k + 1 => by
  have ih0 := L_first.mono_l k
  ·intro y0 y1 y2; unfold L_first.l0
   repeat' with_reducible first
    | exact ih0 ..
    | exact LeO.refl ..
    | exact LeO.none ..
    | refine LeO.ite ?_ ?_
    | refine LeO.bind ?_ (fun _ => ?_)
theorem L_first.mono : ∀ a0 k, LeO (L_first.f k a0) (L_first.f (k + 1) a0) := by
 intro a0 k; have ih0 := L_first.mono_l k; unfold L_first.f
 repeat' with_reducible first
  | exact ih0 ..
  | exact LeO.refl ..
  | exact LeO.none ..
  | refine LeO.ite ?_ ?_
  | refine LeO.bind ?_ (fun _ => ?_)
theorem L_first.calls (k : Nat) (A0 : Option Addr) (c0 : Nat) (l0 : List Int) (r : Int) (w : World) (hr0 : Kd.C (Kd.int .i64) w A0 l0.length l0) (hc0 : l0.length ≤ c0) (H : L_first.f k l0 = some r) :
  Calls Try.prog 68 #[.slice A0 l0.length c0] w fun e w' => e = .returned (.int .i64 r) ∧ Drawn0 w w' := by
 have HR0 := m0 hr0; have HC0 := m0 hc0; clear hr0 hc0; unfold L_first.f at H; have H' := m0 H; clear H; go_enter Try.func68, Try.ntmps68
 go_wp2
 go_loopg [7] k (fun kq v7 w' => ∃ (x7_1 : Int), v7 = .int .i64 x7_1 ∧ Aside0 (L_first.l0 kq l0 (l0.length : Int) x7_1 = some r) ∧ Aside0 (kq ≤ k) ∧ Drawn0 w w')
 case atStart => exact ⟨(0), rz, H', ⟨Nat.le_refl _⟩, by repeat (first | exact Drawn0.refl _ | apply Drawn0.step)⟩
 case round =>
  clear H'; obtain ⟨x7_1, rfl, HA, HK1, ⟨m1, rfl⟩⟩ := hrel
  cases gk with
  | zero => exact absurd HA.out (by simp [L_first.l0])
  | succ k1 =>
   have H := HA.out; clear HA; simp only [L_first.l0] at H
   by_cases c2 : x7_1 < (l0.length : Int)
   ·rw [if_pos c2] at H; have c2b0 := decide_eq_true c2; clear c2
    by_cases c3 : 0 ≤ x7_1
    ·rw [if_pos c3] at H; have c3b0 := decide_eq_true c3; clear c3
     by_cases c4 : x7_1 < (l0.length : Int)
     ·rw [if_pos c4] at H; have c4b0 := decide_eq_true c4; clear c4
      by_cases c5 : (rd l0 x7_1) = 0
      ·rw [if_pos c5] at H; have c5b0 := beq_iff_eq.mpr c5; have c5b1 := bne_eq_false_iff_eq.mpr c5; clear c5; have H' := m0 H; clear H; have p101 : 0 ≤ (x7_1 : Int) := od; have q101 : x7_1 < (l0.length : Int) := od; obtain ⟨ad101, e101, hx101_0⟩ := Kd.at_int HR0.out x7_1 p101 q101
       cases e101
       replace p101 := eq_true p101; replace q101 := eq_true q101
       go_wp2
       go_roundg k1
       case measure => have := HK1.out; omega
       case rel => exact ⟨(wrap64 (x7_1 + 1)), rz, H', ⟨by have := HK1.out; omega⟩, by repeat (first | exact Drawn0.refl _ | apply Drawn0.step)⟩
      ·rw [if_neg c5] at H; have c5b0 := beq_eq_false_iff_ne.mpr c5; have c5b1 := bne_iff_ne.mpr c5; obtain rfl := Option.some.inj H; have p101 : 0 ≤ (x7_1 : Int) := od; have q101 : x7_1 < (l0.length : Int) := od; obtain ⟨ad101, e101, hx101_0⟩ := Kd.at_int HR0.out x7_1 p101 q101
       cases e101
       replace p101 := eq_true p101; replace q101 := eq_true q101
       go_wp2
       go_ret
       exact ⟨rz, by repeat (first | exact Drawn0.refl _ | apply Drawn0.step)⟩
     ·rw [if_neg c4] at H; exact absurd H (by simp)
    ·rw [if_neg c3] at H; exact absurd H (by simp)
   ·rw [if_neg c2] at H; have c2b0 := decide_eq_false c2; clear c2; obtain rfl := Option.some.inj H
    go_wp2
    go_ret
    exact ⟨rz, by repeat (first | exact Drawn0.refl _ | apply Drawn0.step)⟩
end
section
def L_unless.f (a0 : Bool) (a1 : Int) : Option (Int) := if a0 = true then (some 0) else (some a1)
theorem L_unless.calls (a0 : Bool) (a1 : Int) (r : Int) (w : World) (H : L_unless.f a0 a1 = some r) :
  Calls Try.prog 69 #[.bool a0, .int .i64 a1] w fun e w' => e = .returned (.int .i64 r) ∧ Drawn0 w w' := by
 unfold L_unless.f at H
 by_cases c3 : a0 = true
 ·subst c3; rw [if_pos rfl] at H; obtain rfl := Option.some.inj H; go_enter Try.func69, Try.ntmps69
  go_wp2
  go_ret
  exact ⟨rz, by repeat (first | exact Drawn0.refl _ | apply Drawn0.step)⟩
 ·replace c3 := Bool.eq_false_iff.mpr c3; subst c3; rw [if_neg (show ¬ (false = true) by decide)] at H; obtain rfl := Option.some.inj H; go_enter Try.func69, Try.ntmps69
  go_wp2
  go_ret
  exact ⟨rz, by repeat (first | exact Drawn0.refl _ | apply Drawn0.step)⟩
end
section
def L_within.f (a0 : Int) (a1 : Int) (a2 : Int) : Option (Bool) := if a1 ≤ a0 then (some (decide (a0 ≤ a2))) else (some false)
theorem L_within.calls (a0 : Int) (a1 : Int) (a2 : Int) (r : Bool) (w : World) (H : L_within.f a0 a1 a2 = some r) :
  Calls Try.prog 70 #[.int .i64 a0, .int .i64 a1, .int .i64 a2] w fun e w' => e = .returned (.bool r) ∧ Drawn0 w w' := by
 unfold L_within.f at H
 by_cases c4 : a1 ≤ a0
 ·rw [if_pos c4] at H; have c4b0 := decide_eq_true c4; clear c4; obtain rfl := Option.some.inj H; go_enter Try.func70, Try.ntmps70
  go_wp2
  go_ret
  exact ⟨rz, by repeat (first | exact Drawn0.refl _ | apply Drawn0.step)⟩
 ·rw [if_neg c4] at H; have c4b0 := decide_eq_false c4; clear c4; obtain rfl := Option.some.inj H; go_enter Try.func70, Try.ntmps70
  go_wp2
  go_ret
  exact ⟨rz, by repeat (first | exact Drawn0.refl _ | apply Drawn0.step)⟩
end
section
def L_isTime.f (a0 : Int) : Option (Bool) := (L_within.f a0 0 1000000).bind fun t102 => (some t102)
theorem L_isTime.calls (a0 : Int) (r : Bool) (w : World) (H : L_isTime.f a0 = some r) :
  Calls Try.prog 105 #[.int .i64 a0] w fun e w' => e = .returned (.bool r) ∧ Drawn0 w w' := by
 unfold L_isTime.f at H; replace H := oa H; obtain ⟨t102, A2, H⟩ := H; (try dsimp only at H); obtain rfl := Option.some.inj H; go_enter Try.func105, Try.ntmps105
 go_wp2_with (first | ((with_reducible refine gc 70 rfl ?_); refine gl (some 4) Try.func70 #[.int .i64 a0, .int .i64 0, .int .i64 1000000] ?_; (with_reducible refine (L_within.calls a0 0 1000000 t102 _ A2.out).mono ?_); rintro e w' ⟨rfl, ⟨nd, rfl⟩⟩; refine ⟨_, rfl, ?_⟩))
 go_ret
 exact ⟨rz, by repeat (first | exact Drawn0.refl _ | apply Drawn0.step)⟩
end
section
def L_openShots_1.f (k : Nat) (a0_0 : Int) (a0_1 : Int) (a0_2 : Int) : Option (Int) := (L_isTime.f a0_0).bind fun t104 => (if t104 = true then ((L_isTime.f a0_1).bind fun t105 => (if t105 = true then ((L_within.f a0_2 0 10000).bind fun t106 => ((L_unless.f t106 2).bind fun t107 => ((L_unless.f (decide (a0_0 < a0_1)) 9).bind fun t108 => ((L_first.f k (([t107, t108] : List Int))).bind fun t112 => (some t112))))) else ((L_unless.f false 2).bind fun t113 => ((L_unless.f (decide (a0_0 < a0_1)) 9).bind fun t114 => ((L_first.f k (([t113, t114] : List Int))).bind fun t118 => (some t118)))))) else ((L_unless.f false 2).bind fun t119 => ((L_unless.f (decide (a0_0 < a0_1)) 9).bind fun t120 => ((L_first.f k (([t119, t120] : List Int))).bind fun t124 => (some t124)))))
theorem L_openShots_1.mono : ∀ a0 a1 a2 k, LeO (L_openShots_1.f k a0 a1 a2) (L_openShots_1.f (k + 1) a0 a1 a2) := by
 intro a0 a1 a2 k; unfold L_openShots_1.f
 repeat' with_reducible first
  | exact L_first.mono ..
  | exact LeO.refl ..
  | exact LeO.none ..
  | refine LeO.ite ?_ ?_
  | refine LeO.bind ?_ (fun _ => ?_)
def L_openShots_1.T2 : Bool × List (List Nat × List Nat) := (true, [([], []), ([0], [0]), ([], []), ([2], [2]), ([], []), ([4], [4]), ([3, 5], [3, 5]), ([6, 1], [6]), ([1, 7], [1, 7]), ([8, 7], [8]), ([9, 9, 0, 1, 2, 3, 4, 5, 6, 7, 8, 9], [9])])
def L_openShots_1.B2 : List Nat := [0, 1, 0, 4, 0, 16, 60, 127, 255, 511, 1023]
theorem L_openShots_1.tab2 : rtab .any (opsOf Try.f104 2) = L_openShots_1.T2 := by kernel_rfl
theorem L_openShots_1.bits2 : waitsOk L_openShots_1.T2.2 L_openShots_1.B2 = true := by kernel_rfl
theorem L_openShots_1.calls (k : Nat) (a0_0 : Int) (a0_1 : Int) (a0_2 : Int) (r : Int) (w : World) (H : L_openShots_1.f k a0_0 a0_1 a0_2 = some r) :
  Calls Try.prog 104 #[.agg #[.int .i64 a0_0, .int .i64 a0_1, .int .i64 a0_2]] w fun e w' => e = .returned (.int .i64 r) ∧ Below w.heap.size w w' := by
 have hu108 := Try.underlying108; have HB := m0 (Below.refl w.heap.size w); unfold L_openShots_1.f at H; replace H := oa H; obtain ⟨t104, A2, H⟩ := H; (try dsimp only at H)
 by_cases c3 : t104 = true
 ·subst c3; rw [if_pos rfl] at H; replace H := oa H; obtain ⟨t105, A4, H⟩ := H; (try dsimp only at H)
  by_cases c5 : t105 = true
  ·subst c5; rw [if_pos rfl] at H; replace H := oa H; obtain ⟨t106, A6, H⟩ := H; (try dsimp only at H); replace H := oa H; obtain ⟨t107, A7, H⟩ := H; (try dsimp only at H); replace H := oa H; obtain ⟨t108, A8, H⟩ := H; (try dsimp only at H); obtain ⟨y109, hy109⟩ : ∃ y_ : List Int, y_ = (([t107, t108] : List Int)) := ⟨_, rfl⟩; replace H : ((L_first.f k y109).bind fun t112 => (some t112)) = some r := by first | (rw [hy109]; with_reducible exact H) | (have H2_ := (Option.bind_some _ _).symm.trans H; rw [hy109]; with_reducible exact H2_) | (have H2_ := (Option.bind_some _ _).symm.trans H; with_reducible exact H2_) | with_reducible exact H | (rw [hy109]; exact H) | exact H
   have Ny109 := m0 hy109; clear hy109; replace H := oa H; obtain ⟨t112, A9, H⟩ := H; (try dsimp only at H); obtain rfl := Option.some.inj H; go_enter Try.func104, Try.ntmps104
   try go_wp2_with (first | ((with_reducible refine ga 1 rfl ?_); refine be 1 108 #[.int .i64 a0_0, .int .i64 a0_1, .int .i64 a0_2] ?_; intro gb103 hg w10 hbox hb; have BK103 := m0 hbox; have GE103 := gw w hg; replace HB := sb HB hb; clear hb hbox hg; obtain ⟨_, _, _, _, _, _⟩ := b3 BK103) | ((with_reducible refine gc 105 rfl ?_); refine gl (some 6) Try.func105 #[.int .i64 a0_0] ?_; (with_reducible refine (L_isTime.calls a0_0 true _ A2.out).mono ?_); rintro e w' ⟨rfl, ⟨nd, rfl⟩⟩; refine ⟨_, rfl, ?_⟩) | (go_at_call 105; (with_reducible refine (L_isTime.calls a0_1 true _ A4.out).mono ?_); rintro e w' ⟨rfl, ⟨nd, rfl⟩⟩) | (go_at_call 70; (with_reducible refine (L_within.calls a0_2 0 10000 t106 _ A6.out).mono ?_); rintro e w' ⟨rfl, ⟨nd, rfl⟩⟩))
   (try (rw [drewN_self w10]; generalize hq_ : World.drewN w10 _ = w10; replace BK103 := gd BK103 hq_; replace HB := gs HB hq_; clear hq_))
   replace BK103 := bd BK103; replace HB := sd HB; refine start_ (n := 11) (S := fun w' => w'.cell? ⟨gb103, 0, none⟩ = some (.int .i64 a0_0) ∧ w'.cell? ⟨gb103, 1, none⟩ = some (.int .i64 a0_1) ∧ w'.cell? ⟨gb103, 2, none⟩ = some (.int .i64 a0_2)) (ds := []) _ (by kernel_rfl) rfl rfl cz (fun hH => ?_); refine with_tabW L_openShots_1.tab2 L_openShots_1.bits2 (fun HT_ HW_ => ?_); generalize w10.drew = w12 at BK103 HB hH ⊢; refine pZ 0 (some 17) #[true, false, false, false, false, false, false, false, false, false, false] HT_ ?_; refine pZ 2 (some 19) #[true, false, true, false, false, false, false, false, false, false, false] HT_ ?_; refine pZ 4 (some 21) #[true, false, true, false, true, false, false, false, false, false, false] HT_ ?_; refine takeZ 3 (some 20) #[true, false, true, true, true, false, false, false, false, false, false] (tw HT_ HW_) hH ?_; refine takeZ 5 (some 22) #[true, false, true, true, true, true, false, false, false, false, false] (tw HT_ HW_) hH ?_; refine pZ 6 (some 23) #[true, false, true, true, true, true, true, false, false, false, false] HT_ ?_; refine oneZ 1 (some 18) #[true, true, true, true, true, true, true, false, false, false, false] (o1 HT_) fun K hK => ?_; refine gz Try.func69 #[.bool t106, .int .i64 2] ?_
   with_reducible refine (L_unless.calls t106 2 t107 _ A7.out).mono ?_
   rintro e w' ⟨rfl, ⟨nd, rfl⟩⟩; refine ⟨_, rfl, ?_⟩; refine hK.out _ _ cz (fun hH => ?_); clear hK K; refine nz 18 ?_; refine oneZ 7 (some 24) #[true, true, true, true, true, true, true, true, false, false, false] (o1 HT_) fun K hK => ?_; refine gz Try.func69 #[.bool (decide (a0_0 < a0_1)), .int .i64 9] ?_
   with_reducible refine (L_unless.calls (decide (a0_0 < a0_1)) 9 t108 _ A8.out).mono ?_
   rintro e w' ⟨rfl, ⟨nd, rfl⟩⟩; refine ⟨_, rfl, ?_⟩; refine hK.out _ _ cz (fun hH => ?_); clear hK K; refine nz 24 ?_; refine oneZ 8 (some 25) #[true, true, true, true, true, true, true, true, true, false, false] (o1 HT_) fun K hK => ?_; refine Kd.R_lit_step (Kd.int .i64) _ 26 ?hg (N := 25) ?hd (xs := ([t107, t108] : List Int)) (inner := [.int .i64 t107, .int .i64 t108]) (ok := fun _ => True) (okp := fun _ => True) ?hr ?hp (fun _ hk => hk) trivial (Below.refl _ _) (Nat.le_refl _) (by simp) ?_; (case hd => rfl); (case hg => rfl); (case hr => first | (go_simp; done) | (go_simp; rfl)); (case hp => exact (Reps.one (ki t107) (Reps.one (ki t108) (Reps.none _ _))))
   intro v110 w13 ho14 hb hg_ hnew_; clear hg_ hnew_
   (first | rw [← Ny109.out] at ho14 | (simp only [Int.reduceToNat] at ho14; rw [← Ny109.out] at ho14))
   have HO111 := m0 (Kd.R_lower ho14 (below_size bz)); replace BK103 := bb BK103 hb; replace HB := sb HB hb; clear hb ho14; obtain ⟨Ao15, co15, eo15⟩ := Kd.R_slice HO111.out; subst eo15; refine hK.out _ _ cz (fun hH => ?_); clear hK K; refine nz 25 ?_; refine oneZ 9 (some 26) #[true, true, true, true, true, true, true, true, true, true, false] (o1 HT_) fun K hK => ?_; refine gz Try.func68 #[.slice Ao15 y109.length co15] ?_
   with_reducible refine (L_first.calls k _ _ y109 t112 _ ?side1 ?side2 A9.out).mono ?_
   (case side1 => exact bc (Kd.R_reads' HO111.out).2.2)
   (case side2 => exact (Kd.R_reads' HO111.out).2.1)
   rintro e w' ⟨rfl, ⟨nd, rfl⟩⟩; refine ⟨_, rfl, ?_⟩; refine hK.out _ _ cz (fun hH => ?_); clear hK K; refine nz 26 ?_; refine pZ 10 (some 2) #[true, true, true, true, true, true, true, true, true, true, true] HT_ ?_; refine done_ (done_of HT_.out (by kernel_rfl)) ?_
   try go_wp2
   go_ret
   exact ez
  ·replace c5 := Bool.eq_false_iff.mpr c5; subst c5; rw [if_neg (show ¬ (false = true) by decide)] at H; replace H := oa H; obtain ⟨t113, A16, H⟩ := H; (try dsimp only at H); replace H := oa H; obtain ⟨t114, A17, H⟩ := H; (try dsimp only at H); obtain ⟨y115, hy115⟩ : ∃ y_ : List Int, y_ = (([t113, t114] : List Int)) := ⟨_, rfl⟩; replace H : ((L_first.f k y115).bind fun t118 => (some t118)) = some r := by first | (rw [hy115]; with_reducible exact H) | (have H2_ := (Option.bind_some _ _).symm.trans H; rw [hy115]; with_reducible exact H2_) | (have H2_ := (Option.bind_some _ _).symm.trans H; with_reducible exact H2_) | with_reducible exact H | (rw [hy115]; exact H) | exact H
   have Ny115 := m0 hy115; clear hy115; replace H := oa H; obtain ⟨t118, A18, H⟩ := H; (try dsimp only at H); obtain rfl := Option.some.inj H; go_enter Try.func104, Try.ntmps104
   try go_wp2_with (first | ((with_reducible refine ga 1 rfl ?_); refine be 1 108 #[.int .i64 a0_0, .int .i64 a0_1, .int .i64 a0_2] ?_; intro gb103 hg w19 hbox hb; have BK103 := m0 hbox; have GE103 := gw w hg; replace HB := sb HB hb; clear hb hbox hg; obtain ⟨_, _, _, _, _, _⟩ := b3 BK103) | ((with_reducible refine gc 105 rfl ?_); refine gl (some 6) Try.func105 #[.int .i64 a0_0] ?_; (with_reducible refine (L_isTime.calls a0_0 true _ A2.out).mono ?_); rintro e w' ⟨rfl, ⟨nd, rfl⟩⟩; refine ⟨_, rfl, ?_⟩) | (go_at_call 105; (with_reducible refine (L_isTime.calls a0_1 false _ A4.out).mono ?_); rintro e w' ⟨rfl, ⟨nd, rfl⟩⟩))
   (try (rw [drewN_self w19]; generalize hq_ : World.drewN w19 _ = w19; replace BK103 := gd BK103 hq_; replace HB := gs HB hq_; clear hq_))
   replace BK103 := bd BK103; replace HB := sd HB; refine start_ (n := 11) (S := fun w' => w'.cell? ⟨gb103, 0, none⟩ = some (.int .i64 a0_0) ∧ w'.cell? ⟨gb103, 1, none⟩ = some (.int .i64 a0_1) ∧ w'.cell? ⟨gb103, 2, none⟩ = some (.int .i64 a0_2)) (ds := []) _ (by kernel_rfl) rfl rfl cz (fun hH => ?_); refine with_tabW L_openShots_1.tab2 L_openShots_1.bits2 (fun HT_ HW_ => ?_); generalize w19.drew = w21 at BK103 HB hH ⊢; refine pZ 0 (some 17) #[true, false, false, false, false, false, false, false, false, false, false] HT_ ?_; refine pZ 2 (some 19) #[true, false, true, false, false, false, false, false, false, false, false] HT_ ?_; refine pZ 4 (some 21) #[true, false, true, false, true, false, false, false, false, false, false] HT_ ?_; refine takeZ 3 (some 20) #[true, false, true, true, true, false, false, false, false, false, false] (tw HT_ HW_) hH ?_; refine takeZ 5 (some 22) #[true, false, true, true, true, true, false, false, false, false, false] (tw HT_ HW_) hH ?_; refine pZ 6 (some 23) #[true, false, true, true, true, true, true, false, false, false, false] HT_ ?_; refine oneZ 1 (some 18) #[true, true, true, true, true, true, true, false, false, false, false] (o1 HT_) fun K hK => ?_; refine gz Try.func69 #[.bool false, .int .i64 2] ?_
   with_reducible refine (L_unless.calls false 2 t113 _ A16.out).mono ?_
   rintro e w' ⟨rfl, ⟨nd, rfl⟩⟩; refine ⟨_, rfl, ?_⟩; refine hK.out _ _ cz (fun hH => ?_); clear hK K; refine nz 18 ?_; refine oneZ 7 (some 24) #[true, true, true, true, true, true, true, true, false, false, false] (o1 HT_) fun K hK => ?_; refine gz Try.func69 #[.bool (decide (a0_0 < a0_1)), .int .i64 9] ?_
   with_reducible refine (L_unless.calls (decide (a0_0 < a0_1)) 9 t114 _ A17.out).mono ?_
   rintro e w' ⟨rfl, ⟨nd, rfl⟩⟩; refine ⟨_, rfl, ?_⟩; refine hK.out _ _ cz (fun hH => ?_); clear hK K; refine nz 24 ?_; refine oneZ 8 (some 25) #[true, true, true, true, true, true, true, true, true, false, false] (o1 HT_) fun K hK => ?_; refine Kd.R_lit_step (Kd.int .i64) _ 26 ?hg (N := 25) ?hd (xs := ([t113, t114] : List Int)) (inner := [.int .i64 t113, .int .i64 t114]) (ok := fun _ => True) (okp := fun _ => True) ?hr ?hp (fun _ hk => hk) trivial (Below.refl _ _) (Nat.le_refl _) (by simp) ?_; (case hd => rfl); (case hg => rfl); (case hr => first | (go_simp; done) | (go_simp; rfl)); (case hp => exact (Reps.one (ki t113) (Reps.one (ki t114) (Reps.none _ _))))
   intro v116 w22 ho23 hb hg_ hnew_; clear hg_ hnew_
   (first | rw [← Ny115.out] at ho23 | (simp only [Int.reduceToNat] at ho23; rw [← Ny115.out] at ho23))
   have HO117 := m0 (Kd.R_lower ho23 (below_size bz)); replace BK103 := bb BK103 hb; replace HB := sb HB hb; clear hb ho23; obtain ⟨Ao24, co24, eo24⟩ := Kd.R_slice HO117.out; subst eo24; refine hK.out _ _ cz (fun hH => ?_); clear hK K; refine nz 25 ?_; refine oneZ 9 (some 26) #[true, true, true, true, true, true, true, true, true, true, false] (o1 HT_) fun K hK => ?_; refine gz Try.func68 #[.slice Ao24 y115.length co24] ?_
   with_reducible refine (L_first.calls k _ _ y115 t118 _ ?side1 ?side2 A18.out).mono ?_
   (case side1 => exact bc (Kd.R_reads' HO117.out).2.2)
   (case side2 => exact (Kd.R_reads' HO117.out).2.1)
   rintro e w' ⟨rfl, ⟨nd, rfl⟩⟩; refine ⟨_, rfl, ?_⟩; refine hK.out _ _ cz (fun hH => ?_); clear hK K; refine nz 26 ?_; refine pZ 10 (some 2) #[true, true, true, true, true, true, true, true, true, true, true] HT_ ?_; refine done_ (done_of HT_.out (by kernel_rfl)) ?_
   try go_wp2
   go_ret
   exact ez
 ·replace c3 := Bool.eq_false_iff.mpr c3; subst c3; rw [if_neg (show ¬ (false = true) by decide)] at H; replace H := oa H; obtain ⟨t119, A25, H⟩ := H; (try dsimp only at H); replace H := oa H; obtain ⟨t120, A26, H⟩ := H; (try dsimp only at H); obtain ⟨y121, hy121⟩ : ∃ y_ : List Int, y_ = (([t119, t120] : List Int)) := ⟨_, rfl⟩; replace H : ((L_first.f k y121).bind fun t124 => (some t124)) = some r := by first | (rw [hy121]; with_reducible exact H) | (have H2_ := (Option.bind_some _ _).symm.trans H; rw [hy121]; with_reducible exact H2_) | (have H2_ := (Option.bind_some _ _).symm.trans H; with_reducible exact H2_) | with_reducible exact H | (rw [hy121]; exact H) | exact H
  have Ny121 := m0 hy121; clear hy121; replace H := oa H; obtain ⟨t124, A27, H⟩ := H; (try dsimp only at H); obtain rfl := Option.some.inj H; go_enter Try.func104, Try.ntmps104
  try go_wp2_with (first | ((with_reducible refine ga 1 rfl ?_); refine be 1 108 #[.int .i64 a0_0, .int .i64 a0_1, .int .i64 a0_2] ?_; intro gb103 hg w28 hbox hb; have BK103 := m0 hbox; have GE103 := gw w hg; replace HB := sb HB hb; clear hb hbox hg; obtain ⟨_, _, _, _, _, _⟩ := b3 BK103) | ((with_reducible refine gc 105 rfl ?_); refine gl (some 6) Try.func105 #[.int .i64 a0_0] ?_; (with_reducible refine (L_isTime.calls a0_0 false _ A2.out).mono ?_); rintro e w' ⟨rfl, ⟨nd, rfl⟩⟩; refine ⟨_, rfl, ?_⟩))
  (try (rw [drewN_self w28]; generalize hq_ : World.drewN w28 _ = w28; replace BK103 := gd BK103 hq_; replace HB := gs HB hq_; clear hq_))
  replace BK103 := bd BK103; replace HB := sd HB; refine start_ (n := 11) (S := fun w' => w'.cell? ⟨gb103, 0, none⟩ = some (.int .i64 a0_0) ∧ w'.cell? ⟨gb103, 1, none⟩ = some (.int .i64 a0_1) ∧ w'.cell? ⟨gb103, 2, none⟩ = some (.int .i64 a0_2)) (ds := []) _ (by kernel_rfl) rfl rfl cz (fun hH => ?_); refine with_tabW L_openShots_1.tab2 L_openShots_1.bits2 (fun HT_ HW_ => ?_); generalize w28.drew = w30 at BK103 HB hH ⊢; refine pZ 0 (some 17) #[true, false, false, false, false, false, false, false, false, false, false] HT_ ?_; refine pZ 2 (some 19) #[true, false, true, false, false, false, false, false, false, false, false] HT_ ?_; refine pZ 4 (some 21) #[true, false, true, false, true, false, false, false, false, false, false] HT_ ?_; refine takeZ 3 (some 20) #[true, false, true, true, true, false, false, false, false, false, false] (tw HT_ HW_) hH ?_; refine takeZ 5 (some 22) #[true, false, true, true, true, true, false, false, false, false, false] (tw HT_ HW_) hH ?_; refine pZ 6 (some 23) #[true, false, true, true, true, true, true, false, false, false, false] HT_ ?_; refine oneZ 1 (some 18) #[true, true, true, true, true, true, true, false, false, false, false] (o1 HT_) fun K hK => ?_; refine gz Try.func69 #[.bool false, .int .i64 2] ?_
  with_reducible refine (L_unless.calls false 2 t119 _ A25.out).mono ?_
  rintro e w' ⟨rfl, ⟨nd, rfl⟩⟩; refine ⟨_, rfl, ?_⟩; refine hK.out _ _ cz (fun hH => ?_); clear hK K; refine nz 18 ?_; refine oneZ 7 (some 24) #[true, true, true, true, true, true, true, true, false, false, false] (o1 HT_) fun K hK => ?_; refine gz Try.func69 #[.bool (decide (a0_0 < a0_1)), .int .i64 9] ?_
  with_reducible refine (L_unless.calls (decide (a0_0 < a0_1)) 9 t120 _ A26.out).mono ?_
  rintro e w' ⟨rfl, ⟨nd, rfl⟩⟩; refine ⟨_, rfl, ?_⟩; refine hK.out _ _ cz (fun hH => ?_); clear hK K; refine nz 24 ?_; refine oneZ 8 (some 25) #[true, true, true, true, true, true, true, true, true, false, false] (o1 HT_) fun K hK => ?_; refine Kd.R_lit_step (Kd.int .i64) _ 26 ?hg (N := 25) ?hd (xs := ([t119, t120] : List Int)) (inner := [.int .i64 t119, .int .i64 t120]) (ok := fun _ => True) (okp := fun _ => True) ?hr ?hp (fun _ hk => hk) trivial (Below.refl _ _) (Nat.le_refl _) (by simp) ?_; (case hd => rfl); (case hg => rfl); (case hr => first | (go_simp; done) | (go_simp; rfl)); (case hp => exact (Reps.one (ki t119) (Reps.one (ki t120) (Reps.none _ _))))
  intro v122 w31 ho32 hb hg_ hnew_; clear hg_ hnew_
  (first | rw [← Ny121.out] at ho32 | (simp only [Int.reduceToNat] at ho32; rw [← Ny121.out] at ho32))
  have HO123 := m0 (Kd.R_lower ho32 (below_size bz)); replace BK103 := bb BK103 hb; replace HB := sb HB hb; clear hb ho32; obtain ⟨Ao33, co33, eo33⟩ := Kd.R_slice HO123.out; subst eo33; refine hK.out _ _ cz (fun hH => ?_); clear hK K; refine nz 25 ?_; refine oneZ 9 (some 26) #[true, true, true, true, true, true, true, true, true, true, false] (o1 HT_) fun K hK => ?_; refine gz Try.func68 #[.slice Ao33 y121.length co33] ?_
  with_reducible refine (L_first.calls k _ _ y121 t124 _ ?side1 ?side2 A27.out).mono ?_
  (case side1 => exact bc (Kd.R_reads' HO123.out).2.2)
  (case side2 => exact (Kd.R_reads' HO123.out).2.1)
  rintro e w' ⟨rfl, ⟨nd, rfl⟩⟩; refine ⟨_, rfl, ?_⟩; refine hK.out _ _ cz (fun hH => ?_); clear hK K; refine nz 26 ?_; refine pZ 10 (some 2) #[true, true, true, true, true, true, true, true, true, true, true] HT_ ?_; refine done_ (done_of HT_.out (by kernel_rfl)) ?_
  try go_wp2
  go_ret
  exact ez
end
end Go.Proofs.Yteiafijbgjgiaaa.A
