/- THE LAW CloudEyes: its parameters are opened, its walk (the contract) is joined with the plain law; the row. Written by wip/gen_law.py. -/
import Derived.Test.YteiafijbgjgiaaaRows
import Derived.WalkKit
import Derived.ProofKit
import Derived.ShutString
import Derived.ChangeOld
import Derived.Below
import Derived.SizedLaws
import Derived.Lib.SmallJoins
import Derived.Test.YteiafijbgjgiaaaE05
import Derived.Test.YteiafijbgjgiaaaB03
import Derived.Test.YteiafijbgjgiaaaE06
namespace Go.Proofs.Yteiafijbgjgiaaa.cloudEyes
open Go.ChangeShapes Go.WideShapes Go.ChangeAt Go.RowKit Go.Proofs.YteiafijbgjgiaaaW.PrintWords Go.Deep
set_option linter.unusedVariables false
set_option linter.unusedSimpArgs false
theorem own : ownKnob Try.prog.godebug = none := by kernel_rfl
theorem laidOut : laidOutB Try.prog = true := by kernel_rfl
def IsRow (k : IntKind) (w : World) (a : Option Addr) (len cap : Nat) (zs : List Int) : Prop :=
  (a = none ∧ len = 0 ∧ cap = 0 ∧ zs = []) ∨
  ∃ x, a = some x ∧ len ≤ cap ∧ cap ≤ maxLen ∧ zs.length = cap ∧ (∀ i, i < zs.length → w.cell? (x.add i) = some (.int k (zs.getD i 0))) ∧ ∀ n ∈ zs, (Lit.int k n).wf = true
theorem c3 : Try.prog.cellsOf 3 = 1 := by kernel_rfl
theorem c22 : Try.prog.cellsOf 22 = 1 := by kernel_rfl
theorem c24 : Try.prog.cellsOf 24 = 2 := by kernel_rfl
theorem c108 : Try.prog.cellsOf 108 = 3 := by kernel_rfl
theorem arr2 {α : Type} {cs : Array α} (h : cs.size = 2) : ∃ c0 c1, cs = #[c0, c1] := by
  obtain ⟨l⟩ := cs
  match l, h with
  | [c0, c1], _ => exact ⟨c0, c1, rfl⟩
def g108 (x : A.S108) : Prop := (Lit.int .i64 x.f0).wf = true ∧ (Lit.int .i64 x.f1).wf = true ∧ (Lit.int .i64 x.f2).wf = true
theorem o108 {W : World} : A.Opens Try.prog W 108 A.k108 g108 := A.Opens.iso (f := fun x : A.S108 => (x.f0, x.f1, x.f2)) (fun p => ⟨p.1, p.2.1, p.2.2⟩) (fun _ => rfl) (A.Opens.struct3 (a := Kd.int .i64) (b := Kd.int .i64) (c := Kd.int .i64) Try.underlying108 c108 rfl rfl rfl c3 c3 c3 (A.Opens.int (P := Try.prog) (W := W) Try.underlying3) (A.Opens.int (P := Try.prog) (W := W) Try.underlying3) (A.Opens.int (P := Try.prog) (W := W) Try.underlying3))
instance : Inhabited A.S108 := ⟨A.z108⟩
set_option maxRecDepth 100000 in
theorem lifted (os : Os) (started : os.Started) (H : Type) (enc : TypeId × Value → H) :
    ReturnsInHanded {} Try.checked os 3 .any (Rows.cloudEyesSpec.pre6 enc Try.prog Try.f3 Rows.cloudEyesRow.domain false) (Rows.cloudEyesSpec.post enc Try.prog Try.f3 false true false false) := by
  refine returnsInHanded_of_change_sized (C := Try.checked) own started (by kernel_rfl) Try.func3
    (ChangeSpec.witness6 (enc := enc) (C := Try.checked) false ⟨#[], #[.slice none 0 0, .agg #[.int .i64 0, .int .i64 0]], []⟩ 8 (by kernel_rfl) (by kernel_rfl) (by kernel_rfl) (by kernel_rfl)) ?_
  intro W base args ds gs before hval0 hW hcnd hsz0 _
  have hval : ∀ (j : Nat) t v, Try.f3.params[j]? = some t → args[j]? = some v → Value.okWide Try.prog W .any base t v := hval0
  have hW' := hW
  obtain ⟨p, q, hA0, hV, rfl, hfz, hnd⟩ := hW
  have hA : DataW.TrodAll enc Try.prog W 0 (fun _ => true) true Try.f3.params.toList args.toList ds p := hA0
  rw [Try.params3] at hA hval
  obtain ⟨v0, vs0, d0, ds0, p0, q0, hargs, rfl, rfl, h0, r0⟩ := trodAll_cons hA
  obtain ⟨v1, vs1, d1, ds1, p1, q1, rfl, rfl, rfl, h1, r1⟩ := trodAll_cons r0
  obtain ⟨rfl, rfl, rfl⟩ := trodAll_nil r1
  obtain rfl : args = #[v0, v1] := by cases args; simp_all
  obtain ⟨rfl, rfl⟩ := trodVars_none hV
  have k0 := h0
  have lt0 : ∀ x ∈ p0, x.block < W.heap.size := by obtain ⟨m, hm⟩ := k0; exact DataW.trod_lt m _ _ _ hm
  obtain ⟨a0, len0, cap0, rfl⟩ := okWide_slice Try.underlying22 (hval 0 22 v0 rfl rfl)
  obtain ⟨l0, rfl, hr0, hg0, hc0⟩ := (A.Opens.slice (P := Try.prog) (W := W) Try.underlying22 c108 (o108)).param h0
  have k1 := h1
  have lt1 : ∀ x ∈ p1, x.block < W.heap.size := by obtain ⟨m, hm⟩ := k1; exact DataW.trod_lt m _ _ _ hm
  obtain ⟨cs1, rfl, hz1⟩ := okWide_struct Try.underlying24 (hval 1 24 v1 rfl rfl)
  obtain ⟨x1_0, x1_1, rfl⟩ := arr2 (hz1.trans c24)
  obtain ⟨fuel1, hf1⟩ := h1
  obtain ⟨y1_0, y1_1, m1, _, _, s1_0, s1_1⟩ := trod_struct2 Try.underlying24 hf1
  replace s1_0 : DataW.trod enc Try.prog W 0 (fun _ => true) true m1 3 [x1_0] = some y1_0 := by simpa [Value.cells, c3] using s1_0
  obtain ⟨n1_0, e1_0, _, wf1_0⟩ := DataW.trod_int Try.underlying3 s1_0
  obtain rfl : x1_0 = .int .i64 n1_0 := by simpa [Value.cells] using e1_0
  replace s1_1 : DataW.trod enc Try.prog W 0 (fun _ => true) true m1 3 [x1_1] = some y1_1 := by simpa [Value.cells, c3] using s1_1
  obtain ⟨n1_1, e1_1, _, wf1_1⟩ := DataW.trod_int Try.underlying3 s1_1
  obtain rfl : x1_1 = .int .i64 n1_1 := by simpa [Value.cells] using e1_1
  clear hA0 hval0
  obtain ⟨kk, hk⟩ := Go.Proofs.Yteiafijbgjgiaaa.P.CloudEyes_pure l0 hg0 n1_0 wf1_0 n1_1 wf1_1
  refine (A.Lw_CloudEyes.calls kk _ _ l0 n1_0 n1_1 true W hr0 hc0 hk).mono fun e W' ⟨he, bel⟩ => ?_
  subst he
  exact ⟨_, rfl, _, _, _, [], _, [], hW', trodAll_mk1 (shut_bool Try.underlying4 _), (trodAll_cons_mk (Below.trod laidOut (by kernel_rfl) (of_decide_eq_true (by kernel_rfl)) k0 bel lt0) (trodAll_cons_mk (Below.trod laidOut (by kernel_rfl) (of_decide_eq_true (by kernel_rfl)) k1 bel lt1) trodAll_mk0)), rfl, bel.frame _, fun h => by cases h⟩
set_option maxHeartbeats 0 in
theorem holds : Rows.CloudEyesSaid :=
  OpenClaim.holds_of_wide 3 Try.f3 rfl rfl rfl rfl rfl rfl rfl ⟨rfl, rfl, rfl, rfl, rfl⟩ rfl rfl rfl rfl rfl (by as_aux_lemma => kernel_rfl) Try.func3 (by as_aux_lemma => kernel_rfl)
    (of_decide_eq_true (by as_aux_lemma => kernel_rfl)) (by as_aux_lemma => unfold Func.isWrapper; first | (rw [if_pos (by decide +kernel)]; kernel_rfl) | (rw [if_neg (by decide +kernel)]; exact ⟨rfl, rfl⟩))
    (fun os started H enc _ => lifted os started H enc)
#print axioms holds
end Go.Proofs.Yteiafijbgjgiaaa.cloudEyes
