/- Walks of the program's functions (printed, made shorter), each with what it computes. -/
import Derived.Test.YtibhfahbabgbaaaProg
import Derived.Test.YtibhfahbabgbaaaTX05
namespace Go.Proofs.Ytibhfahbabgbaaa.A
set_option maxHeartbeats 8000000
set_option maxRecDepth 100000
open Go.RowKit Go.Proofs.YtibhfahbabgbaaaW.PrintWords Go.Proofs.YtibhfahbabgbaaaW.PrintLast Go.Proofs.YtibhfahbabgbaaaW.PrintMore
attribute [local go_sem] max2_int min2_int max_two min_two max_three min_three max_four min_four
set_option linter.unusedVariables false
set_option linter.unusedSimpArgs false
section
def errW : Option Int → Value
  | none => .nilIface
  | some c => .iface 0 (.int .i64 c)
theorem errW_none : errW none = .nilIface := rfl
theorem errW_some (c : Int) : errW (some c) = .iface 0 (.int .i64 c) := rfl
theorem ret_int {k : IntKind} {a b : Int} (h : a = b) : Ending.returned (.int k a) = Ending.returned (.int k b) := by rw [h]
theorem ret_bool {a b : Bool} (h : a = b) : Ending.returned (.bool a) = Ending.returned (.bool b) := by rw [h]
def PredI (g : Nat) (lb : Array Value) (p : Int → Bool) (w : World) : Prop :=
  ∀ (W : World) (x : Int), Below w.heap.size w W → Calls Try.prog g (#[.int .i64 x] ++ lb) W fun e w' => e = .returned (.bool (p x)) ∧ ∃ q, w' = W.drewN q
def idxF (p : Int → Bool) (l : List Int) : Int := match l.findIdx? p with | some i => (i : Int) | none => -1
theorem idxF_hit (p : Int → Bool) (l : List Int) (k : Nat) (h : k < l.length) (hp : p (rd l k) = true) (h0 : ∀ j, j < k → p (rd l j) = false) : idxF p l = k := by
  have : l.findIdx? p = some k := by
    rw [List.findIdx?_eq_some_iff_getElem]; refine ⟨h, ?_, fun j hj => ?_⟩
    · simpa [rd, List.getD_eq_getElem?_getD, List.getElem?_eq_getElem h] using hp
    · have := h0 j hj; have hj' : j < l.length := Nat.lt_trans hj h
      simpa [rd, List.getD_eq_getElem?_getD, List.getElem?_eq_getElem hj'] using this
  simp [idxF, this]
theorem idxF_miss (p : Int → Bool) (l : List Int) (h0 : ∀ j, j < l.length → p (rd l j) = false) : idxF p l = -1 := by
  have : l.findIdx? p = none := by
    rw [List.findIdx?_eq_none_iff]; intro x hx; obtain ⟨j, hj, rfl⟩ := List.getElem_of_mem hx
    simpa [rd, List.getD_eq_getElem?_getD, List.getElem?_eq_getElem hj] using h0 j hj
  simp [idxF, this]
theorem idxF_any (p : Int → Bool) (l : List Int) : decide (0 ≤ idxF p l) = l.any p := by
  unfold idxF
  cases h : l.findIdx? p with
  | none =>
    rw [List.findIdx?_eq_none_iff] at h; have : l.any p = false := by rw [List.any_eq_false]; exact fun x hx => by simp [h x hx]
    rw [this]; rfl
  | some i =>
    rw [List.findIdx?_eq_some_iff_getElem] at h; obtain ⟨hi, hp, _⟩ := h; have : l.any p = true := List.any_eq_true.mpr ⟨_, List.getElem_mem hi, hp⟩; rw [this]
    simp
def eqElems (d : Nat) (e : TypeId) (n : Nat) (xs ys : Array Value) : List Nat → Sem Bool
  | [] => pure true
  | i :: r => do
    let a ← part e xs (i * n)
    let b ← part e ys (i * n)
    let q ← Op.equalIn d e a b
    if (!q) = true then pure false else eqElems d e n xs ys r
theorem run_equalIn_array {P : Program} {t e : TypeId} {len n d : Nat} {xs ys : Array Value} {w : World} (hu : P.underlying t = some (.array len e)) (hn : ∀ w, (sizeOf e).run P w = .ok n w) :
    (Op.equalIn (d + 1) t (.agg xs) (.agg ys)).run P w = (eqElems d e n xs ys (List.range' 0 len)).run P w := by
  simp only [Op.equalIn, Sem.run_bind, run_underlying hu, Result.andThen_ok, hn]
  simp
  generalize List.range' 0 len = is; clear hu
  induction is generalizing w with
  | nil => simp [eqElems]
  | cons i is ih =>
    simp only [List.forIn_cons, eqElems, Sem.run_bind, Sem.run_ite, Bool.not_eq_true']; generalize (part e xs (i * n)).run P w = r1
    cases r1 with
    | ok a w1 =>
      simp only [Result.andThen_ok]; generalize (part e ys (i * n)).run P w1 = r2
      cases r2 with
      | ok b w2 =>
        simp only [Result.andThen_ok]; generalize (Op.equalIn d e a b).run P w2 = r3
        cases r3 with
        | ok r w3 =>
          cases r
          · simp only [Result.andThen_ok, Bool.not_false, if_true, Sem.run_pure]
          · simp only [Result.andThen_ok, Bool.not_true, Bool.false_eq_true, if_false, Sem.run_pure]
            simpa using ih (w := w3)
        | halt x w3 => simp [Result.andThen]
      | halt x w2 => simp [Result.andThen]
    | halt x w1 => simp [Result.andThen]
section
variable {P : Program} {d n i : Nat} {e : TypeId} {xs ys : Array Value} {is : List Nat} {a b : Value} {r s : Bool} {w : World}
theorem eqe_last (ha : (part e xs (i * n)).run P w = .ok a w) (hb : (part e ys (i * n)).run P w = .ok b w) (he : (Op.equalIn d e a b).run P w = .ok r w) : (eqElems d e n xs ys [i]).run P w = .ok r w := by
  simp only [eqElems, Sem.run_bind, ha, hb, he, Result.andThen_ok]
  cases r <;> simp
theorem eqe_cons (ha : (part e xs (i * n)).run P w = .ok a w) (hb : (part e ys (i * n)).run P w = .ok b w) (he : (Op.equalIn d e a b).run P w = .ok r w) (hr : (eqElems d e n xs ys is).run P w = .ok s w) : (eqElems d e n xs ys (i :: is)).run P w = .ok (r && s) w := by
  rw [eqElems]; simp only [Sem.run_bind, ha, hb, he, Result.andThen_ok]
  cases r
  · simp
  · simpa using hr
end
theorem info3 : (Try.prog.info? 3).map (fun i => (i.zero, i.size, i.bytes)) = some (some (.int .i64 0), 1, 8) := by kernel_rfl
theorem info85 : (Try.prog.info? 85).map (fun i => (i.zero, i.size, i.bytes)) = some (some (.agg #[(.int .i64 0), (.int .i64 0), (.int .i64 0)]), 3, 24) := by kernel_rfl
theorem info139 : (Try.prog.info? 139).map (fun i => (i.zero, i.size, i.bytes)) = some (some (.agg #[(.int .i64 0), (.int .i64 0), (.int .i64 0), (.int .i64 0), (.int .i64 0), (.int .i64 0), (.int .i64 0), (.int .i64 0), (.int .i64 0)]), 9, 72) := by kernel_rfl
structure S42 where
  f0 : ByteArray
  f1 : Int
  f2 : Int
def z42 : S42 := ⟨(⟨#[]⟩ : ByteArray), (0 : Int), (0 : Int)⟩
def k42 : Kd S42 := Kd.iso (Kd.pair Kd.string (Kd.pair (Kd.int .i64) (Kd.int .i64))) (fun x : S42 => (x.f0, x.f1, x.f2))
theorem k42_open {w : World} {x : S42} {cs : List Value} (h : k42.K w x cs) : cs = [.string x.f0, .int .i64 x.f1, .int .i64 x.f2] := by
  obtain ⟨_, _, rfl, rfl, ⟨_, _, rfl, rfl, rfl⟩⟩ := h; exact rfl
theorem k42_mkM (w : World) (base : Nat) (ok : Nat → Prop) (x : S42)  : k42.M w base ok x [.string x.f0, .int .i64 x.f1, .int .i64 x.f2] := ⟨[.string x.f0], [.int .i64 x.f1, .int .i64 x.f2], rfl, rfl, ⟨[.int .i64 x.f1], [.int .i64 x.f2], rfl, rfl, rfl⟩⟩
def rd_T42 (xs : List S42) (i : Int) : S42 := xs.getD i.toNat z42
theorem at_T42 {w : World} {A : Option Addr} {n : Nat} {xs : List S42} (h : Kd.C k42 w A n xs) (i : Int) (h0 : 0 ≤ i) (h1 : i < n) : ∃ ad , A = some ad ∧ w.cell? (ad.add (i.toNat * 3)) = some (.string (rd_T42 xs i).f0) ∧ w.cell? ⟨(ad.add (i.toNat * 3)).block, (ad.add (i.toNat * 3)).off + 1, none⟩ = some (.int .i64 (rd_T42 xs i).f1) ∧ w.cell? ⟨(ad.add (i.toNat * 3)).block, (ad.add (i.toNat * 3)).off + 2, none⟩ = some (.int .i64 (rd_T42 xs i).f2) := by
  obtain ⟨ad, c, e, _, hK, hc0⟩ := Kd.C_get h z42 i h0 h1; have hc : ∀ j u, c[j]? = some u → w.cell? (ad.add (i.toNat * 3 + j)) = some u := hc0; obtain rfl := k42_open hK; exact ⟨ad, e, hc 0 _ rfl, by rw [← add_field _ _ 1 (by omega)]; exact hc 1 _ rfl, by rw [← add_field _ _ 2 (by omega)]; exact hc 2 _ rfl⟩
structure S85 where
  f0 : Int
  f1 : Int
  f2 : Int
def z85 : S85 := ⟨(0 : Int), (0 : Int), (0 : Int)⟩
def k85 : Kd S85 := Kd.iso (Kd.pair (Kd.int .i64) (Kd.pair (Kd.int .i64) (Kd.int .i64))) (fun x : S85 => (x.f0, x.f1, x.f2))
theorem k85_open {w : World} {x : S85} {cs : List Value} (h : k85.K w x cs) : cs = [.int .i64 x.f0, .int .i64 x.f1, .int .i64 x.f2] := by
  obtain ⟨_, _, rfl, rfl, ⟨_, _, rfl, rfl, rfl⟩⟩ := h; exact rfl
theorem k85_openM {w : World} {base : Nat} {ok : Nat → Prop} {x : S85} {cs : List Value} (h : k85.M w base ok x cs) : cs = [.int .i64 x.f0, .int .i64 x.f1, .int .i64 x.f2] := by
  obtain ⟨_, _, rfl, rfl, ⟨_, _, rfl, rfl, rfl⟩⟩ := h; exact rfl
theorem k85_mkM (w : World) (base : Nat) (ok : Nat → Prop) (x : S85)  : k85.M w base ok x [.int .i64 x.f0, .int .i64 x.f1, .int .i64 x.f2] := ⟨[.int .i64 x.f0], [.int .i64 x.f1, .int .i64 x.f2], rfl, rfl, ⟨[.int .i64 x.f1], [.int .i64 x.f2], rfl, rfl, rfl⟩⟩
def rd_T85 (xs : List S85) (i : Int) : S85 := xs.getD i.toNat z85
theorem at_T85 {w : World} {A : Option Addr} {n : Nat} {xs : List S85} (h : Kd.C k85 w A n xs) (i : Int) (h0 : 0 ≤ i) (h1 : i < n) : ∃ ad , A = some ad ∧ w.cell? (ad.add (i.toNat * 3)) = some (.int .i64 (rd_T85 xs i).f0) ∧ w.cell? ⟨(ad.add (i.toNat * 3)).block, (ad.add (i.toNat * 3)).off + 1, none⟩ = some (.int .i64 (rd_T85 xs i).f1) ∧ w.cell? ⟨(ad.add (i.toNat * 3)).block, (ad.add (i.toNat * 3)).off + 2, none⟩ = some (.int .i64 (rd_T85 xs i).f2) := by
  obtain ⟨ad, c, e, _, hK, hc0⟩ := Kd.C_get h z85 i h0 h1; have hc : ∀ j u, c[j]? = some u → w.cell? (ad.add (i.toNat * 3 + j)) = some u := hc0; obtain rfl := k85_open hK; exact ⟨ad, e, hc 0 _ rfl, by rw [← add_field _ _ 1 (by omega)]; exact hc 1 _ rfl, by rw [← add_field _ _ 2 (by omega)]; exact hc 2 _ rfl⟩
structure S44 where
  f0 : Int
  f1 : Int
  f2 : Int
def z44 : S44 := ⟨(0 : Int), (0 : Int), (0 : Int)⟩
def k44 : Kd S44 := Kd.iso (Kd.pair (Kd.int .i64) (Kd.pair (Kd.int .i64) (Kd.int .i64))) (fun x : S44 => (x.f0, x.f1, x.f2))
theorem k44_open {w : World} {x : S44} {cs : List Value} (h : k44.K w x cs) : cs = [.int .i64 x.f0, .int .i64 x.f1, .int .i64 x.f2] := by
  obtain ⟨_, _, rfl, rfl, ⟨_, _, rfl, rfl, rfl⟩⟩ := h; exact rfl
theorem k44_mkM (w : World) (base : Nat) (ok : Nat → Prop) (x : S44)  : k44.M w base ok x [.int .i64 x.f0, .int .i64 x.f1, .int .i64 x.f2] := ⟨[.int .i64 x.f0], [.int .i64 x.f1, .int .i64 x.f2], rfl, rfl, ⟨[.int .i64 x.f1], [.int .i64 x.f2], rfl, rfl, rfl⟩⟩
structure S126 where
  f0 : S44
  f1 : S44
def z126 : S126 := ⟨z44, z44⟩
def k126 : Kd S126 := Kd.iso (Kd.pair k44 k44) (fun x : S126 => (x.f0, x.f1))
theorem k126_open {w : World} {x : S126} {cs : List Value} (h : k126.K w x cs) : cs = [.int .i64 x.f0.f0, .int .i64 x.f0.f1, .int .i64 x.f0.f2, .int .i64 x.f1.f0, .int .i64 x.f1.f1, .int .i64 x.f1.f2] := by
  obtain ⟨_, _, rfl, s0, s3⟩ := h; obtain rfl := k44_open s0; obtain rfl := k44_open s3; exact rfl
theorem k126_mkM (w : World) (base : Nat) (ok : Nat → Prop) (x : S126)  : k126.M w base ok x [.int .i64 x.f0.f0, .int .i64 x.f0.f1, .int .i64 x.f0.f2, .int .i64 x.f1.f0, .int .i64 x.f1.f1, .int .i64 x.f1.f2] := ⟨[.int .i64 x.f0.f0, .int .i64 x.f0.f1, .int .i64 x.f0.f2], [.int .i64 x.f1.f0, .int .i64 x.f1.f1, .int .i64 x.f1.f2], rfl, (k44_mkM w base ok x.f0 ), (k44_mkM w base ok x.f1 )⟩
def rd_T126 (xs : List S126) (i : Int) : S126 := xs.getD i.toNat z126
theorem at_T126 {w : World} {A : Option Addr} {n : Nat} {xs : List S126} (h : Kd.C k126 w A n xs) (i : Int) (h0 : 0 ≤ i) (h1 : i < n) : ∃ ad , A = some ad ∧ w.cell? (ad.add (i.toNat * 6)) = some (.int .i64 (rd_T126 xs i).f0.f0) ∧ w.cell? ⟨(ad.add (i.toNat * 6)).block, (ad.add (i.toNat * 6)).off + 1, none⟩ = some (.int .i64 (rd_T126 xs i).f0.f1) ∧ w.cell? ⟨(ad.add (i.toNat * 6)).block, (ad.add (i.toNat * 6)).off + 2, none⟩ = some (.int .i64 (rd_T126 xs i).f0.f2) ∧ w.cell? ⟨(ad.add (i.toNat * 6)).block, (ad.add (i.toNat * 6)).off + 3, none⟩ = some (.int .i64 (rd_T126 xs i).f1.f0) ∧ w.cell? ⟨(ad.add (i.toNat * 6)).block, (ad.add (i.toNat * 6)).off + 4, none⟩ = some (.int .i64 (rd_T126 xs i).f1.f1) ∧ w.cell? ⟨(ad.add (i.toNat * 6)).block, (ad.add (i.toNat * 6)).off + 5, none⟩ = some (.int .i64 (rd_T126 xs i).f1.f2) := by
  obtain ⟨ad, c, e, _, hK, hc0⟩ := Kd.C_get h z126 i h0 h1; have hc : ∀ j u, c[j]? = some u → w.cell? (ad.add (i.toNat * 6 + j)) = some u := hc0; obtain rfl := k126_open hK; exact ⟨ad, e, hc 0 _ rfl, by rw [← add_field _ _ 1 (by omega)]; exact hc 1 _ rfl, by rw [← add_field _ _ 2 (by omega)]; exact hc 2 _ rfl, by rw [← add_field _ _ 3 (by omega)]; exact hc 3 _ rfl, by rw [← add_field _ _ 4 (by omega)]; exact hc 4 _ rfl, by rw [← add_field _ _ 5 (by omega)]; exact hc 5 _ rfl⟩
structure S137 where
  f0 : Int
  f1 : Int
  f2 : Int
def z137 : S137 := ⟨(0 : Int), (0 : Int), (0 : Int)⟩
def k137 : Kd S137 := Kd.iso (Kd.pair (Kd.int .i64) (Kd.pair (Kd.int .i64) (Kd.int .i64))) (fun x : S137 => (x.f0, x.f1, x.f2))
theorem k137_open {w : World} {x : S137} {cs : List Value} (h : k137.K w x cs) : cs = [.int .i64 x.f0, .int .i64 x.f1, .int .i64 x.f2] := by
  obtain ⟨_, _, rfl, rfl, ⟨_, _, rfl, rfl, rfl⟩⟩ := h; exact rfl
theorem k137_mkM (w : World) (base : Nat) (ok : Nat → Prop) (x : S137)  : k137.M w base ok x [.int .i64 x.f0, .int .i64 x.f1, .int .i64 x.f2] := ⟨[.int .i64 x.f0], [.int .i64 x.f1, .int .i64 x.f2], rfl, rfl, ⟨[.int .i64 x.f1], [.int .i64 x.f2], rfl, rfl, rfl⟩⟩
def rd_T137 (xs : List S137) (i : Int) : S137 := xs.getD i.toNat z137
theorem at_T137 {w : World} {A : Option Addr} {n : Nat} {xs : List S137} (h : Kd.C k137 w A n xs) (i : Int) (h0 : 0 ≤ i) (h1 : i < n) : ∃ ad , A = some ad ∧ w.cell? (ad.add (i.toNat * 3)) = some (.int .i64 (rd_T137 xs i).f0) ∧ w.cell? ⟨(ad.add (i.toNat * 3)).block, (ad.add (i.toNat * 3)).off + 1, none⟩ = some (.int .i64 (rd_T137 xs i).f1) ∧ w.cell? ⟨(ad.add (i.toNat * 3)).block, (ad.add (i.toNat * 3)).off + 2, none⟩ = some (.int .i64 (rd_T137 xs i).f2) := by
  obtain ⟨ad, c, e, _, hK, hc0⟩ := Kd.C_get h z137 i h0 h1; have hc : ∀ j u, c[j]? = some u → w.cell? (ad.add (i.toNat * 3 + j)) = some u := hc0; obtain rfl := k137_open hK; exact ⟨ad, e, hc 0 _ rfl, by rw [← add_field _ _ 1 (by omega)]; exact hc 1 _ rfl, by rw [← add_field _ _ 2 (by omega)]; exact hc 2 _ rfl⟩
structure S139 where
  f0 : S137
  f1 : S137
  f2 : S137
def z139 : S139 := ⟨z137, z137, z137⟩
def k139 : Kd S139 := Kd.iso (Kd.pair k137 (Kd.pair k137 k137)) (fun x : S139 => (x.f0, x.f1, x.f2))
theorem k139_open {w : World} {x : S139} {cs : List Value} (h : k139.K w x cs) : cs = [.int .i64 x.f0.f0, .int .i64 x.f0.f1, .int .i64 x.f0.f2, .int .i64 x.f1.f0, .int .i64 x.f1.f1, .int .i64 x.f1.f2, .int .i64 x.f2.f0, .int .i64 x.f2.f1, .int .i64 x.f2.f2] := by
  obtain ⟨_, _, rfl, s0, ⟨_, _, rfl, s3, s6⟩⟩ := h; obtain rfl := k137_open s0; obtain rfl := k137_open s3; obtain rfl := k137_open s6; exact rfl
theorem k139_mkM (w : World) (base : Nat) (ok : Nat → Prop) (x : S139)  : k139.M w base ok x [.int .i64 x.f0.f0, .int .i64 x.f0.f1, .int .i64 x.f0.f2, .int .i64 x.f1.f0, .int .i64 x.f1.f1, .int .i64 x.f1.f2, .int .i64 x.f2.f0, .int .i64 x.f2.f1, .int .i64 x.f2.f2] := ⟨[.int .i64 x.f0.f0, .int .i64 x.f0.f1, .int .i64 x.f0.f2], [.int .i64 x.f1.f0, .int .i64 x.f1.f1, .int .i64 x.f1.f2, .int .i64 x.f2.f0, .int .i64 x.f2.f1, .int .i64 x.f2.f2], rfl, (k137_mkM w base ok x.f0 ), ⟨[.int .i64 x.f1.f0, .int .i64 x.f1.f1, .int .i64 x.f1.f2], [.int .i64 x.f2.f0, .int .i64 x.f2.f1, .int .i64 x.f2.f2], rfl, (k137_mkM w base ok x.f1 ), (k137_mkM w base ok x.f2 )⟩⟩
def rd_T139 (xs : List S139) (i : Int) : S139 := xs.getD i.toNat z139
theorem at_T139 {w : World} {A : Option Addr} {n : Nat} {xs : List S139} (h : Kd.C k139 w A n xs) (i : Int) (h0 : 0 ≤ i) (h1 : i < n) : ∃ ad , A = some ad ∧ w.cell? (ad.add (i.toNat * 9)) = some (.int .i64 (rd_T139 xs i).f0.f0) ∧ w.cell? ⟨(ad.add (i.toNat * 9)).block, (ad.add (i.toNat * 9)).off + 1, none⟩ = some (.int .i64 (rd_T139 xs i).f0.f1) ∧ w.cell? ⟨(ad.add (i.toNat * 9)).block, (ad.add (i.toNat * 9)).off + 2, none⟩ = some (.int .i64 (rd_T139 xs i).f0.f2) ∧ w.cell? ⟨(ad.add (i.toNat * 9)).block, (ad.add (i.toNat * 9)).off + 3, none⟩ = some (.int .i64 (rd_T139 xs i).f1.f0) ∧ w.cell? ⟨(ad.add (i.toNat * 9)).block, (ad.add (i.toNat * 9)).off + 4, none⟩ = some (.int .i64 (rd_T139 xs i).f1.f1) ∧ w.cell? ⟨(ad.add (i.toNat * 9)).block, (ad.add (i.toNat * 9)).off + 5, none⟩ = some (.int .i64 (rd_T139 xs i).f1.f2) ∧ w.cell? ⟨(ad.add (i.toNat * 9)).block, (ad.add (i.toNat * 9)).off + 6, none⟩ = some (.int .i64 (rd_T139 xs i).f2.f0) ∧ w.cell? ⟨(ad.add (i.toNat * 9)).block, (ad.add (i.toNat * 9)).off + 7, none⟩ = some (.int .i64 (rd_T139 xs i).f2.f1) ∧ w.cell? ⟨(ad.add (i.toNat * 9)).block, (ad.add (i.toNat * 9)).off + 8, none⟩ = some (.int .i64 (rd_T139 xs i).f2.f2) := by
  obtain ⟨ad, c, e, _, hK, hc0⟩ := Kd.C_get h z139 i h0 h1; have hc : ∀ j u, c[j]? = some u → w.cell? (ad.add (i.toNat * 9 + j)) = some u := hc0; obtain rfl := k139_open hK; exact ⟨ad, e, hc 0 _ rfl, by rw [← add_field _ _ 1 (by omega)]; exact hc 1 _ rfl, by rw [← add_field _ _ 2 (by omega)]; exact hc 2 _ rfl, by rw [← add_field _ _ 3 (by omega)]; exact hc 3 _ rfl, by rw [← add_field _ _ 4 (by omega)]; exact hc 4 _ rfl, by rw [← add_field _ _ 5 (by omega)]; exact hc 5 _ rfl, by rw [← add_field _ _ 6 (by omega)]; exact hc 6 _ rfl, by rw [← add_field _ _ 7 (by omega)]; exact hc 7 _ rfl, by rw [← add_field _ _ 8 (by omega)]; exact hc 8 _ rfl⟩
end
section
theorem eqA56 (d : Nat) (w : World) (x0 y0 : Int) (x1 y1 : Int) (x2 y2 : Int) :
  (Op.equalIn (d + 2) 56 (.agg #[.int .i64 x0, .int .i64 x1, .int .i64 x2]) (.agg #[.int .i64 y0, .int .i64 y1, .int .i64 y2])).run Try.prog w = .ok (x0 == y0 && (x1 == y1 && (x2 == y2))) w := by
 refine eqA_of Try.underlying56 (by kernel_rfl) ?_; refine eqf_cons (by rfl) (by go_simp; rfl) (by go_simp; rfl) (by go_simp) ?_; refine eqf_cons (by rfl) (by go_simp; rfl) (by go_simp; rfl) (by go_simp) ?_; exact eqf_last (by rfl) (by go_simp; rfl) (by go_simp; rfl) (by go_simp)
end
section
theorem eqA73 (d : Nat) (w : World) (x0 y0 : Int) (x1 y1 : Int) :
  (Op.equalIn (d + 2) 73 (.agg #[.int .i64 x0, .int .i64 x1]) (.agg #[.int .i64 y0, .int .i64 y1])).run Try.prog w = .ok (x0 == y0 && (x1 == y1)) w := by
 refine eqA_of Try.underlying73 (by kernel_rfl) ?_; refine eqf_cons (by rfl) (by go_simp; rfl) (by go_simp; rfl) (by go_simp) ?_; exact eqf_last (by rfl) (by go_simp; rfl) (by go_simp; rfl) (by go_simp)
end
section
def L_sums_spread.f (a0_0 : Int) (a0_1 : Int) (a0_2 : Int) (a0_3 : Int) (a0_4 : Int) (a0_5 : Int) : Option (Int) := some (wrap64 ((wrap64 (a0_0 * a0_3)) - (wrap64 (a0_1 * a0_1))))
theorem L_sums_spread.calls (a0_0 : Int) (a0_1 : Int) (a0_2 : Int) (a0_3 : Int) (a0_4 : Int) (a0_5 : Int) (r : Int) (w : World) (H : L_sums_spread.f a0_0 a0_1 a0_2 a0_3 a0_4 a0_5 = some r) :
  Calls Try.prog 96 #[.agg #[.int .i64 a0_0, .int .i64 a0_1, .int .i64 a0_2, .int .i64 a0_3, .int .i64 a0_4, .int .i64 a0_5]] w fun e w' => e = .returned (.int .i64 r) ∧ Below w.heap.size w w' := by
 have hu149 := Try.underlying149; have HB := m0 (Below.refl w.heap.size w); unfold L_sums_spread.f at H; obtain rfl := Option.some.inj H; go_enter Try.func96, Try.ntmps96
 go_wp2_with (first | ((with_reducible refine ga 1 rfl ?_); refine be 1 149 #[.int .i64 a0_0, .int .i64 a0_1, .int .i64 a0_2, .int .i64 a0_3, .int .i64 a0_4, .int .i64 a0_5] ?_; intro gb129 hg w2 hbox hb; have BK129 := m0 hbox; have GE129 := gw w hg; replace HB := sb HB hb; clear hb hbox hg; obtain ⟨_, _, _, _, _, _, _, _, _, _, _, _⟩ := b6 BK129))
 go_ret
 exact ez
end
section
def L_unless.f (a0 : Bool) (a1 : Int) : Option (Int) := if a0 = true then (some 0) else (some a1)
theorem L_unless.calls (a0 : Bool) (a1 : Int) (r : Int) (w : World) (H : L_unless.f a0 a1 = some r) :
  Calls Try.prog 76 #[.bool a0, .int .i64 a1] w fun e w' => e = .returned (.int .i64 r) ∧ Drawn0 w w' := by
 unfold L_unless.f at H
 by_cases c3 : a0 = true
 ·subst c3; rw [if_pos rfl] at H; obtain rfl := Option.some.inj H; go_enter Try.func76, Try.ntmps76
  go_wp2
  go_ret
  exact ⟨rz, by repeat (first | exact Drawn0.refl _ | apply Drawn0.step)⟩
 ·replace c3 := Bool.eq_false_iff.mpr c3; subst c3; rw [if_neg (show ¬ (false = true) by decide)] at H; obtain rfl := Option.some.inj H; go_enter Try.func76, Try.ntmps76
  go_wp2
  go_ret
  exact ⟨rz, by repeat (first | exact Drawn0.refl _ | apply Drawn0.step)⟩
end
section
def L_first.l0 : Nat → List Int → Int → Int → Option (Int)
 | 0, _, _, _ => none
 | k + 1, x5, x6, x7 => if x7 < x6 then (if 0 ≤ x7 then (if x7 < (x5.length : Int) then (if (rd x5 x7) = 0 then (L_first.l0 k x5 x6 (wrap64 (x7 + 1))) else (some (rd x5 x7))) else (none)) else (none)) else (some 0)
def L_first.f (k : Nat) (l0 : List Int) : Option (Int) := L_first.l0 k l0 (l0.length : Int) 0
theorem L_first.mono_l : ∀ k, (∀ y0 y1 y2, LeO (L_first.l0 k y0 y1 y2) (L_first.l0 (k + 1) y0 y1 y2))
 | 0 => fun _ _ _ r h => by simp [L_first.l0] at h
 | k + 1 => by
  have ih0 := L_first.mono_l k
  ·intro y0 y1 y2; unfold L_first.l0
   repeat' with_reducible first
    | exact ih0 ..
    | exact LeO.refl ..
    | exact LeO.none ..
    | refine LeO.ite ?_ ?_
    | refine LeO.bind ?_ (fun _ => ?_)
theorem L_first.mono : ∀ a0 k, LeO (L_first.f k a0) (L_first.f (k + 1) a0) := by
 intro a0 k; have ih0 := L_first.mono_l k; unfold L_first.f
 repeat' with_reducible first
  | exact ih0 ..
  | exact LeO.refl ..
  | exact LeO.none ..
  | refine LeO.ite ?_ ?_
  | refine LeO.bind ?_ (fun _ => ?_)
theorem L_first.calls (k : Nat) (A0 : Option Addr) (c0 : Nat) (l0 : List Int) (r : Int) (w : World) (hr0 : Kd.C (Kd.int .i64) w A0 l0.length l0) (hc0 : l0.length ≤ c0) (H : L_first.f k l0 = some r) :
  Calls Try.prog 75 #[.slice A0 l0.length c0] w fun e w' => e = .returned (.int .i64 r) ∧ Drawn0 w w' := by
 have HR0 := m0 hr0; have HC0 := m0 hc0; clear hr0 hc0; unfold L_first.f at H; have H' := m0 H; clear H; go_enter Try.func75, Try.ntmps75
 go_wp2
 go_loopg [7] k (fun kq v7 w' => ∃ (x7_1 : Int), v7 = .int .i64 x7_1 ∧ Aside0 (L_first.l0 kq l0 (l0.length : Int) x7_1 = some r) ∧ Aside0 (kq ≤ k) ∧ Drawn0 w w')
 case atStart => exact ⟨(0), rz, H', ⟨Nat.le_refl _⟩, by repeat (first | exact Drawn0.refl _ | apply Drawn0.step)⟩
 case round =>
  clear H'; obtain ⟨x7_1, rfl, HA, HK1, ⟨m1, rfl⟩⟩ := hrel
  cases gk with
  | zero => exact absurd HA.out (by simp [L_first.l0])
  | succ k1 =>
   have H := HA.out; clear HA; simp only [L_first.l0] at H
   by_cases c2 : x7_1 < (l0.length : Int)
   ·rw [if_pos c2] at H; have c2b0 := decide_eq_true c2; clear c2
    by_cases c3 : 0 ≤ x7_1
    ·rw [if_pos c3] at H; have c3b0 := decide_eq_true c3; clear c3
     by_cases c4 : x7_1 < (l0.length : Int)
     ·rw [if_pos c4] at H; have c4b0 := decide_eq_true c4; clear c4
      by_cases c5 : (rd l0 x7_1) = 0
      ·rw [if_pos c5] at H; have c5b0 := beq_iff_eq.mpr c5; have c5b1 := bne_eq_false_iff_eq.mpr c5; clear c5; have H' := m0 H; clear H; have p101 : 0 ≤ (x7_1 : Int) := od; have q101 : x7_1 < (l0.length : Int) := od; obtain ⟨ad101, e101, hx101_0⟩ := Kd.at_int HR0.out x7_1 p101 q101
       cases e101
       replace p101 := eq_true p101; replace q101 := eq_true q101
       go_wp2
       go_roundg k1
       case measure => have := HK1.out; omega
       case rel => exact ⟨(wrap64 (x7_1 + 1)), rz, H', ⟨by have := HK1.out; omega⟩, by repeat (first | exact Drawn0.refl _ | apply Drawn0.step)⟩
      ·rw [if_neg c5] at H; have c5b0 := beq_eq_false_iff_ne.mpr c5; have c5b1 := bne_iff_ne.mpr c5; obtain rfl := Option.some.inj H; have p101 : 0 ≤ (x7_1 : Int) := od; have q101 : x7_1 < (l0.length : Int) := od; obtain ⟨ad101, e101, hx101_0⟩ := Kd.at_int HR0.out x7_1 p101 q101
       cases e101
       replace p101 := eq_true p101; replace q101 := eq_true q101
       go_wp2
       go_ret
       exact ⟨rz, by repeat (first | exact Drawn0.refl _ | apply Drawn0.step)⟩
     ·rw [if_neg c4] at H; exact absurd H (by simp)
    ·rw [if_neg c3] at H; exact absurd H (by simp)
   ·rw [if_neg c2] at H; have c2b0 := decide_eq_false c2; clear c2; obtain rfl := Option.some.inj H
    go_wp2
    go_ret
    exact ⟨rz, by repeat (first | exact Drawn0.refl _ | apply Drawn0.step)⟩
end
section
def L_within.f (a0 : Int) (a1 : Int) (a2 : Int) : Option (Bool) := if a1 ≤ a0 then (some (decide (a0 ≤ a2))) else (some false)
theorem L_within.calls (a0 : Int) (a1 : Int) (a2 : Int) (r : Bool) (w : World) (H : L_within.f a0 a1 a2 = some r) :
  Calls Try.prog 78 #[.int .i64 a0, .int .i64 a1, .int .i64 a2] w fun e w' => e = .returned (.bool r) ∧ Drawn0 w w' := by
 unfold L_within.f at H
 by_cases c4 : a1 ≤ a0
 ·rw [if_pos c4] at H; have c4b0 := decide_eq_true c4; clear c4; obtain rfl := Option.some.inj H; go_enter Try.func78, Try.ntmps78
  go_wp2
  go_ret
  exact ⟨rz, by repeat (first | exact Drawn0.refl _ | apply Drawn0.step)⟩
 ·rw [if_neg c4] at H; have c4b0 := decide_eq_false c4; clear c4; obtain rfl := Option.some.inj H; go_enter Try.func78, Try.ntmps78
  go_wp2
  go_ret
  exact ⟨rz, by repeat (first | exact Drawn0.refl _ | apply Drawn0.step)⟩
end
section
def L_CheckReadings_1.f (a0 : Int) : Option (Bool) := (L_within.f a0 0 2000).bind fun t130 => (some t130)
theorem L_CheckReadings_1.calls (a0 : Int) (r : Bool) (w : World) (H : L_CheckReadings_1.f a0 = some r) :
  Calls Try.prog 111 #[.int .i64 a0] w fun e w' => e = .returned (.bool r) ∧ Drawn0 w w' := by
 unfold L_CheckReadings_1.f at H; replace H := oa H; obtain ⟨t130, A2, H⟩ := H; (try dsimp only at H); obtain rfl := Option.some.inj H; go_enter Try.func111, Try.ntmps111
 go_wp2_with (first | ((with_reducible refine gc 78 rfl ?_); refine gl (some 4) Try.func78 #[.int .i64 a0, .int .i64 0, .int .i64 2000] ?_; (with_reducible refine (L_within.calls a0 0 2000 t130 _ A2.out).mono ?_); rintro e w' ⟨rfl, ⟨nd, rfl⟩⟩; refine ⟨_, rfl, ?_⟩))
 go_ret
 exact ⟨rz, by repeat (first | exact Drawn0.refl _ | apply Drawn0.step)⟩
end
section
def L_CheckReadings.l0 : Nat → List (S85) → Int → Int → Option (Int × Int)
 | 0, _, _, _ => none
 | k + 1, x21, x22, x23 => if x23 < x22 then (if 0 ≤ x23 then (if x23 < (x21.length : Int) then ((L_CheckReadings_1.f ((rd_T85 x21 x23).f0)).bind fun t139 => (if t139 = true then ((L_CheckReadings_1.f ((rd_T85 x21 x23).f1)).bind fun t140 => (if t140 = true then ((L_within.f ((rd_T85 x21 x23).f2) 0 1000).bind fun t141 => (if t141 = true then (L_CheckReadings.l0 k x21 x22 (wrap64 (x23 + 1))) else (some (x23, 2)))) else (some (x23, 2)))) else (some (x23, 2)))) else (none)) else (none)) else (some (0, 0))
def L_CheckReadings.f (k : Nat) (l0 : List (S85)) : Option (Int × Int) := (L_unless.f (decide ((l0.length : Int) > 0)) 10).bind fun t131 => ((L_unless.f (decide ((l0.length : Int) ≤ 8)) 8).bind fun t132 => ((L_first.f k (([t131, t132] : List Int))).bind fun t136 => (if t136 = 0 then (L_CheckReadings.l0 k l0 (l0.length : Int) 0) else (some (0, t136)))))
theorem L_CheckReadings.mono_l : ∀ k, (∀ y0 y1 y2, LeO (L_CheckReadings.l0 k y0 y1 y2) (L_CheckReadings.l0 (k + 1) y0 y1 y2))
 | 0 => fun _ _ _ r h => by simp [L_CheckReadings.l0] at h
 | k + 1 => by
  have ih0 := L_CheckReadings.mono_l k
  ·intro y0 y1 y2; unfold L_CheckReadings.l0
   repeat' with_reducible first
    | exact ih0 ..
    | exact L_first.mono ..
    | exact LeO.refl ..
    | exact LeO.none ..
    | refine LeO.ite ?_ ?_
    | refine LeO.bind ?_ (fun _ => ?_)
theorem L_CheckReadings.mono : ∀ a0 k, LeO (L_CheckReadings.f k a0) (L_CheckReadings.f (k + 1) a0) := by
 intro a0 k; have ih0 := L_CheckReadings.mono_l k; unfold L_CheckReadings.f
 repeat' with_reducible first
  | exact ih0 ..
  | exact L_first.mono ..
  | exact LeO.refl ..
  | exact LeO.none ..
  | refine LeO.ite ?_ ?_
  | refine LeO.bind ?_ (fun _ => ?_)
theorem L_CheckReadings.calls (k : Nat) (A0 : Option Addr) (c0 : Nat) (l0 : List (S85)) (r1 : Int) (r2 : Int) (w : World) (hr0 : Kd.C k85 w A0 l0.length l0) (hc0 : l0.length ≤ c0) (H : L_CheckReadings.f k l0 = some (r1, r2)) :
  Calls Try.prog 54 #[.slice A0 l0.length c0] w fun e w' => e = .returned (.tuple #[.int .i64 r1, .int .i64 r2]) ∧ Below w.heap.size w w' := by
 have hu85 := Try.underlying85; have HR0 := m0 hr0; have HC0 := m0 hc0; clear hr0 hc0; have HB := m0 (Below.refl w.heap.size w); unfold L_CheckReadings.f at H; replace H := oa H; obtain ⟨t131, A2, H⟩ := H; (try dsimp only at H); replace H := oa H; obtain ⟨t132, A3, H⟩ := H; (try dsimp only at H); obtain ⟨y133, hy133⟩ : ∃ y_ : List Int, y_ = (([t131, t132] : List Int)) := ⟨_, rfl⟩; replace H : ((L_first.f k y133).bind fun t136 => (if t136 = 0 then (L_CheckReadings.l0 k l0 (l0.length : Int) 0) else (some (0, t136)))) = some (r1, r2) := by first | (rw [hy133]; with_reducible exact H) | (have H2_ := (Option.bind_some _ _).symm.trans H; rw [hy133]; with_reducible exact H2_) | (have H2_ := (Option.bind_some _ _).symm.trans H; with_reducible exact H2_) | with_reducible exact H | (rw [hy133]; exact H) | exact H
 have Ny133 := m0 hy133; clear hy133; replace H := oa H; obtain ⟨t136, A4, H⟩ := H; (try dsimp only at H)
 by_cases c5 : t136 = 0
 ·rw [if_pos c5] at H; have c5b0 := beq_iff_eq.mpr c5; have c5b1 := bne_eq_false_iff_eq.mpr c5; clear c5; have H' := m0 H; clear H; go_enter Try.func54, Try.ntmps54
  go_wp2_with (first | ((with_reducible refine gc 76 rfl ?_); refine goesL_ (some 11) rfl rfl Try.func76 (by kernel_rfl) rfl #[.bool (decide ((l0.length : Int) > 0)), .int .i64 10] rfl (by (try simp only [List.map_toArray, List.map_cons, List.map_nil]); first | done | rfl | (simp only [List.length_drop, List.length_take]; rfl) | (simp; first | done | exact ⟨rfl, rfl⟩)) ?_; (with_reducible refine (L_unless.calls (decide ((l0.length : Int) > 0)) 10 t131 _ A2.out).mono ?_); rintro e w' ⟨rfl, ⟨nd, rfl⟩⟩; refine ⟨_, rfl, ?_⟩) | ((with_reducible refine gc 76 rfl ?_); refine gl (some 15) Try.func76 #[.bool (decide ((l0.length : Int) ≤ 8)), .int .i64 8] ?_; (with_reducible refine (L_unless.calls (decide ((l0.length : Int) ≤ 8)) 8 t132 _ A3.out).mono ?_); rintro e w' ⟨rfl, ⟨nd, rfl⟩⟩; refine ⟨_, rfl, ?_⟩) | ((with_reducible refine ga 16 rfl ?_); refine Kd.R_lit (Kd.int .i64) _ 24 ?hg (N := 16) ?hd (xs := ([t131, t132] : List Int)) (inner := [.int .i64 t131, .int .i64 t132]) (ok := fun _ => True) (okp := fun _ => True) ?hr ?hp (fun _ hk => hk) trivial (Below.refl _ _) (Nat.le_refl _) (by simp) ?_; (case hd => rfl); (case hg => rfl); (case hr => first | (go_simp; done) | (go_simp; rfl)); (case hp => exact (Reps.one (ki t131) (Reps.one (ki t132) (Reps.none _ _)))); intro v134 w6 ho7 hb hg_ hnew_; clear hg_ hnew_; (first | rw [← Ny133.out] at ho7 | (simp only [Int.reduceToNat] at ho7; rw [← Ny133.out] at ho7)); have HO135 := m0 (Kd.R_lower ho7 (below_size bz)); replace HB := sb HB hb; clear hb ho7; obtain ⟨Ao8, co8, eo8⟩ := Kd.R_slice HO135.out; subst eo8) | ((with_reducible refine gc 75 rfl ?_); refine gl (some 17) Try.func75 #[.slice Ao8 y133.length co8] ?_; (with_reducible refine (L_first.calls k _ _ y133 t136 _ ?side1 ?side2 A4.out).mono ?_); (case side1 => exact bc (Kd.R_reads' HO135.out).2.2); (case side2 => exact (Kd.R_reads' HO135.out).2.1); rintro e w' ⟨rfl, ⟨nd, rfl⟩⟩; refine ⟨_, rfl, ?_⟩))
  go_loopg [23] k (fun kq v23 w' => ∃ (x23_1 : Int), v23 = .int .i64 x23_1 ∧ Aside0 (L_CheckReadings.l0 kq l0 (l0.length : Int) x23_1 = some (r1, r2)) ∧ Aside0 (kq ≤ k) ∧ Aside0 (Below w.heap.size w w'))
  case atStart => exact ⟨(0), rz, H', ⟨Nat.le_refl _⟩, ⟨bz⟩⟩
  case round =>
   clear H'; obtain ⟨x23_1, rfl, HA, HK1, HB⟩ := hrel
   cases gk with
   | zero => exact absurd HA.out (by simp [L_CheckReadings.l0])
   | succ k1 =>
    have H := HA.out; clear HA; simp only [L_CheckReadings.l0] at H
    by_cases c9 : x23_1 < (l0.length : Int)
    ·rw [if_pos c9] at H; have c9b0 := decide_eq_true c9; clear c9
     by_cases c10 : 0 ≤ x23_1
     ·rw [if_pos c10] at H; have c10b0 := decide_eq_true c10; clear c10
      by_cases c11 : x23_1 < (l0.length : Int)
      ·rw [if_pos c11] at H; have c11b0 := decide_eq_true c11; clear c11; replace H := oa H; obtain ⟨t139, A12, H⟩ := H; (try dsimp only at H)
       by_cases c13 : t139 = true
       ·subst c13; rw [if_pos rfl] at H; replace H := oa H; obtain ⟨t140, A14, H⟩ := H; (try dsimp only at H)
        by_cases c15 : t140 = true
        ·subst c15; rw [if_pos rfl] at H; replace H := oa H; obtain ⟨t141, A16, H⟩ := H; (try dsimp only at H)
         by_cases c17 : t141 = true
         ·subst c17; rw [if_pos rfl] at H; have H' := m0 H; clear H; have p137 : 0 ≤ (x23_1 : Int) := od; have q137 : x23_1 < (l0.length : Int) := od; obtain ⟨ad137, e137, hx137_0, hx137_1, hx137_2⟩ := at_T85 HR0.out x23_1 p137 q137
          cases e137
          replace hx137_0 := hc HB hx137_0; replace hx137_1 := hc HB hx137_1; replace hx137_2 := hc HB hx137_2; replace p137 := eq_true p137; replace q137 := eq_true q137
          go_wp2_with (first | ((with_reducible refine ga 7 rfl ?_); refine be 7 85 #[.int .i64 0, .int .i64 0, .int .i64 0] ?_; intro gb138 hg w18 hbox hb; have BK138 := m0 hbox; have GE138 := gw w hg; replace HB := sb HB hb; clear hb hbox hg; obtain ⟨_, _, _, _, _, _⟩ := b3 BK138) | (go_at_call 111; (with_reducible refine (L_CheckReadings_1.calls ((rd_T85 l0 x23_1).f0) true _ A12.out).mono ?_); rintro e w' ⟨rfl, ⟨nd, rfl⟩⟩) | (go_at_call 111; (with_reducible refine (L_CheckReadings_1.calls ((rd_T85 l0 x23_1).f1) true _ A14.out).mono ?_); rintro e w' ⟨rfl, ⟨nd, rfl⟩⟩) | (go_at_call 78; (with_reducible refine (L_within.calls ((rd_T85 l0 x23_1).f2) 0 1000 true _ A16.out).mono ?_); rintro e w' ⟨rfl, ⟨nd, rfl⟩⟩))
          go_roundg k1
          case measure => have := HK1.out; omega
          case rel => exact ⟨(wrap64 (x23_1 + 1)), rz, H', ⟨by have := HK1.out; omega⟩, ⟨bz⟩⟩
         ·replace c17 := Bool.eq_false_iff.mpr c17; subst c17; rw [if_neg (show ¬ (false = true) by decide)] at H; simp only [Option.some.injEq, Prod.mk.injEq] at H; obtain ⟨rfl, rfl⟩ := H; have p137 : 0 ≤ (x23_1 : Int) := od; have q137 : x23_1 < (l0.length : Int) := od; obtain ⟨ad137, e137, hx137_0, hx137_1, hx137_2⟩ := at_T85 HR0.out x23_1 p137 q137
          cases e137
          replace hx137_0 := hc HB hx137_0; replace hx137_1 := hc HB hx137_1; replace hx137_2 := hc HB hx137_2; replace p137 := eq_true p137; replace q137 := eq_true q137
          go_wp2_with (first | ((with_reducible refine ga 7 rfl ?_); refine be 7 85 #[.int .i64 0, .int .i64 0, .int .i64 0] ?_; intro gb138 hg w20 hbox hb; have BK138 := m0 hbox; have GE138 := gw w hg; replace HB := sb HB hb; clear hb hbox hg; obtain ⟨_, _, _, _, _, _⟩ := b3 BK138) | (go_at_call 111; (with_reducible refine (L_CheckReadings_1.calls ((rd_T85 l0 x23_1).f0) true _ A12.out).mono ?_); rintro e w' ⟨rfl, ⟨nd, rfl⟩⟩) | (go_at_call 111; (with_reducible refine (L_CheckReadings_1.calls ((rd_T85 l0 x23_1).f1) true _ A14.out).mono ?_); rintro e w' ⟨rfl, ⟨nd, rfl⟩⟩) | (go_at_call 78; (with_reducible refine (L_within.calls ((rd_T85 l0 x23_1).f2) 0 1000 false _ A16.out).mono ?_); rintro e w' ⟨rfl, ⟨nd, rfl⟩⟩))
          go_ret2
          exact ez
        ·replace c15 := Bool.eq_false_iff.mpr c15; subst c15; rw [if_neg (show ¬ (false = true) by decide)] at H; simp only [Option.some.injEq, Prod.mk.injEq] at H; obtain ⟨rfl, rfl⟩ := H; have p137 : 0 ≤ (x23_1 : Int) := od; have q137 : x23_1 < (l0.length : Int) := od; obtain ⟨ad137, e137, hx137_0, hx137_1, hx137_2⟩ := at_T85 HR0.out x23_1 p137 q137
         cases e137
         replace hx137_0 := hc HB hx137_0; replace hx137_1 := hc HB hx137_1; replace hx137_2 := hc HB hx137_2; replace p137 := eq_true p137; replace q137 := eq_true q137
         go_wp2_with (first | ((with_reducible refine ga 7 rfl ?_); refine be 7 85 #[.int .i64 0, .int .i64 0, .int .i64 0] ?_; intro gb138 hg w22 hbox hb; have BK138 := m0 hbox; have GE138 := gw w hg; replace HB := sb HB hb; clear hb hbox hg; obtain ⟨_, _, _, _, _, _⟩ := b3 BK138) | (go_at_call 111; (with_reducible refine (L_CheckReadings_1.calls ((rd_T85 l0 x23_1).f0) true _ A12.out).mono ?_); rintro e w' ⟨rfl, ⟨nd, rfl⟩⟩) | (go_at_call 111; (with_reducible refine (L_CheckReadings_1.calls ((rd_T85 l0 x23_1).f1) false _ A14.out).mono ?_); rintro e w' ⟨rfl, ⟨nd, rfl⟩⟩))
         go_ret2
         exact ez
       ·replace c13 := Bool.eq_false_iff.mpr c13; subst c13; rw [if_neg (show ¬ (false = true) by decide)] at H; simp only [Option.some.injEq, Prod.mk.injEq] at H; obtain ⟨rfl, rfl⟩ := H; have p137 : 0 ≤ (x23_1 : Int) := od; have q137 : x23_1 < (l0.length : Int) := od; obtain ⟨ad137, e137, hx137_0, hx137_1, hx137_2⟩ := at_T85 HR0.out x23_1 p137 q137
        cases e137
        replace hx137_0 := hc HB hx137_0; replace hx137_1 := hc HB hx137_1; replace hx137_2 := hc HB hx137_2; replace p137 := eq_true p137; replace q137 := eq_true q137
        go_wp2_with (first | ((with_reducible refine ga 7 rfl ?_); refine be 7 85 #[.int .i64 0, .int .i64 0, .int .i64 0] ?_; intro gb138 hg w24 hbox hb; have BK138 := m0 hbox; have GE138 := gw w hg; replace HB := sb HB hb; clear hb hbox hg; obtain ⟨_, _, _, _, _, _⟩ := b3 BK138) | (go_at_call 111; (with_reducible refine (L_CheckReadings_1.calls ((rd_T85 l0 x23_1).f0) false _ A12.out).mono ?_); rintro e w' ⟨rfl, ⟨nd, rfl⟩⟩))
        go_ret2
        exact ez
      ·rw [if_neg c11] at H; exact absurd H (by simp)
     ·rw [if_neg c10] at H; exact absurd H (by simp)
    ·rw [if_neg c9] at H; have c9b0 := decide_eq_false c9; clear c9; simp only [Option.some.injEq, Prod.mk.injEq] at H; obtain ⟨rfl, rfl⟩ := H
     go_wp2
     go_ret2
     exact ez
 ·rw [if_neg c5] at H; have c5b0 := beq_eq_false_iff_ne.mpr c5; have c5b1 := bne_iff_ne.mpr c5; simp only [Option.some.injEq, Prod.mk.injEq] at H; obtain ⟨rfl, rfl⟩ := H; go_enter Try.func54, Try.ntmps54
  go_wp2_with (first | ((with_reducible refine gc 76 rfl ?_); refine goesL_ (some 11) rfl rfl Try.func76 (by kernel_rfl) rfl #[.bool (decide ((l0.length : Int) > 0)), .int .i64 10] rfl (by (try simp only [List.map_toArray, List.map_cons, List.map_nil]); first | done | rfl | (simp only [List.length_drop, List.length_take]; rfl) | (simp; first | done | exact ⟨rfl, rfl⟩)) ?_; (with_reducible refine (L_unless.calls (decide ((l0.length : Int) > 0)) 10 t131 _ A2.out).mono ?_); rintro e w' ⟨rfl, ⟨nd, rfl⟩⟩; refine ⟨_, rfl, ?_⟩) | ((with_reducible refine gc 76 rfl ?_); refine gl (some 15) Try.func76 #[.bool (decide ((l0.length : Int) ≤ 8)), .int .i64 8] ?_; (with_reducible refine (L_unless.calls (decide ((l0.length : Int) ≤ 8)) 8 t132 _ A3.out).mono ?_); rintro e w' ⟨rfl, ⟨nd, rfl⟩⟩; refine ⟨_, rfl, ?_⟩) | ((with_reducible refine ga 16 rfl ?_); refine Kd.R_lit (Kd.int .i64) _ 24 ?hg (N := 16) ?hd (xs := ([t131, t132] : List Int)) (inner := [.int .i64 t131, .int .i64 t132]) (ok := fun _ => True) (okp := fun _ => True) ?hr ?hp (fun _ hk => hk) trivial (Below.refl _ _) (Nat.le_refl _) (by simp) ?_; (case hd => rfl); (case hg => rfl); (case hr => first | (go_simp; done) | (go_simp; rfl)); (case hp => exact (Reps.one (ki t131) (Reps.one (ki t132) (Reps.none _ _)))); intro v134 w26 ho27 hb hg_ hnew_; clear hg_ hnew_; (first | rw [← Ny133.out] at ho27 | (simp only [Int.reduceToNat] at ho27; rw [← Ny133.out] at ho27)); have HO135 := m0 (Kd.R_lower ho27 (below_size bz)); replace HB := sb HB hb; clear hb ho27; obtain ⟨Ao28, co28, eo28⟩ := Kd.R_slice HO135.out; subst eo28) | ((with_reducible refine gc 75 rfl ?_); refine gl (some 17) Try.func75 #[.slice Ao28 y133.length co28] ?_; (with_reducible refine (L_first.calls k _ _ y133 t136 _ ?side1 ?side2 A4.out).mono ?_); (case side1 => exact bc (Kd.R_reads' HO135.out).2.2); (case side2 => exact (Kd.R_reads' HO135.out).2.1); rintro e w' ⟨rfl, ⟨nd, rfl⟩⟩; refine ⟨_, rfl, ?_⟩))
  go_ret2
  exact ez
end
section
def L_readingsErr.f (k : Nat) (l0 : List (S85)) : Option (Int) := (L_CheckReadings.f k l0).bind fun bt142 => (some bt142.2)
theorem L_readingsErr.mono : ∀ a0 k, LeO (L_readingsErr.f k a0) (L_readingsErr.f (k + 1) a0) := by
 intro a0 k; unfold L_readingsErr.f
 repeat' with_reducible first
  | exact L_CheckReadings.mono ..
  | exact LeO.refl ..
  | exact LeO.none ..
  | refine LeO.ite ?_ ?_
  | refine LeO.bind ?_ (fun _ => ?_)
theorem L_readingsErr.calls (k : Nat) (A0 : Option Addr) (c0 : Nat) (l0 : List (S85)) (r : Int) (w : World) (hr0 : Kd.C k85 w A0 l0.length l0) (hc0 : l0.length ≤ c0) (H : L_readingsErr.f k l0 = some r) :
  Calls Try.prog 112 #[.slice A0 l0.length c0] w fun e w' => e = .returned (.int .i64 r) ∧ Below w.heap.size w w' := by
 have HR0 := m0 hr0; have HC0 := m0 hc0; clear hr0 hc0; have HB := m0 (Below.refl w.heap.size w); unfold L_readingsErr.f at H; replace H := oa H; obtain ⟨⟨t142, t143⟩, A2, H⟩ := H; (try dsimp only at H); obtain rfl := Option.some.inj H; go_enter Try.func112, Try.ntmps112
 go_wp2_with (first | ((with_reducible refine gc 54 rfl ?_); refine gl (some 7) Try.func54 #[.slice A0 l0.length c0] ?_; (with_reducible refine (L_CheckReadings.calls k _ _ l0 t142 t143 _ ?side1 ?side2 A2.out).mono ?_); (case side1 => repeat (first | exact HR0.out | (with_reducible refine Kd.C_alloc ?_ _) | (with_reducible refine Kd.C_drewN ?_ _) | (with_reducible refine Kd.C_drew ?_))); (case side2 => exact HC0.out); rintro e w3 ⟨rfl, hb⟩; refine ⟨_, rfl, ?_⟩; replace HB := sb HB hb; (try clear hb)))
 go_ret
 exact ez
end
end Go.Proofs.Ytibhfahbabgbaaa.A
