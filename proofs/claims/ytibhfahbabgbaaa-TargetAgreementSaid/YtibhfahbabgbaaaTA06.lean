/- THE LAW TargetAgreement: its parameters are opened, its walk (the contract) is joined with the plain law; the row. Written by wip/gen_law.py. -/
import Derived.Test.YtibhfahbabgbaaaRows
import Derived.WalkKit
import Derived.ProofKit
import Derived.OpenShut
import Derived.ShutString
import Derived.ChangeOld
import Derived.Below
import Derived.SizedLaws
import Derived.Lib.SmallJoins
import Derived.Deep.Strs
import Derived.ChangeSame
import Derived.Test.YtibhfahbabgbaaaTA03
import Derived.Test.YtibhfahbabgbaaaTA04
import Derived.Test.YtibhfahbabgbaaaB03
import Derived.Test.YtibhfahbabgbaaaTA05
namespace Go.Proofs.Ytibhfahbabgbaaa.targetAgreement
open Go.ChangeShapes Go.WideShapes Go.ChangeAt Go.RowKit Go.Proofs.YtibhfahbabgbaaaW.PrintWords Go.Deep
set_option linter.unusedVariables false
set_option linter.unusedSimpArgs false
theorem own : ownKnob Try.prog.godebug = none := by kernel_rfl
theorem laidOut : laidOutB Try.prog = true := by kernel_rfl
def IsRow (k : IntKind) (w : World) (a : Option Addr) (len cap : Nat) (zs : List Int) : Prop :=
  (a = none ∧ len = 0 ∧ cap = 0 ∧ zs = []) ∨
  ∃ x, a = some x ∧ len ≤ cap ∧ cap ≤ maxLen ∧ zs.length = cap ∧ (∀ i, i < zs.length → w.cell? (x.add i) = some (.int k (zs.getD i 0))) ∧ ∀ n ∈ zs, (Lit.int k n).wf = true
theorem c3 : Try.prog.cellsOf 3 = 1 := by kernel_rfl
theorem c58 : Try.prog.cellsOf 58 = 2 := by kernel_rfl
theorem c89 : Try.prog.cellsOf 89 = 1 := by kernel_rfl
theorem c165 : Try.prog.cellsOf 165 = 4 := by kernel_rfl
def g58 (x : A.S58) : Prop := (Lit.int .i64 x.f0).wf = true ∧ (Lit.int .i64 x.f1).wf = true
theorem o58 {W : World} : A.Opens Try.prog W 58 A.k58 g58 := A.Opens.iso (f := fun x : A.S58 => (x.f0, x.f1)) (fun p => ⟨p.1, p.2⟩) (fun _ => rfl) (A.Opens.struct2 (a := Kd.int .i64) (b := Kd.int .i64) Try.underlying58 c58 rfl rfl c3 c3 (A.Opens.int (P := Try.prog) (W := W) Try.underlying3) (A.Opens.int (P := Try.prog) (W := W) Try.underlying3))
instance : Inhabited A.S58 := ⟨A.z58⟩
def g165 (x : A.S165) : Prop := g58 x.f0 ∧ g58 x.f1
theorem o165 {W : World} : A.Opens Try.prog W 165 A.k165 g165 := A.Opens.iso (f := fun x : A.S165 => (x.f0, x.f1)) (fun p => ⟨p.1, p.2⟩) (fun _ => rfl) (A.Opens.struct2 (a := A.k58) (b := A.k58) Try.underlying165 c165 rfl rfl c58 c58 (o58) (o58))
instance : Inhabited A.S165 := ⟨A.z165⟩
set_option maxRecDepth 100000 in
theorem lifted (os : Os) (started : os.Started) (H : Type) (enc : TypeId × Value → H) :
    ReturnsInHanded {} Try.checked os 9 .any (Rows.targetAgreementSpec.pre6 enc Try.prog Try.f9 Rows.targetAgreementRow.domain false) (Rows.targetAgreementSpec.post enc Try.prog Try.f9 false true false false) := by
  refine returnsInHanded_of_change_sized (C := Try.checked) own started (by kernel_rfl) Try.func9
    (ChangeSpec.witness6 (enc := enc) (C := Try.checked) false ⟨#[], #[.slice none 0 0, .int .i64 0], []⟩ 8 (by kernel_rfl) (by kernel_rfl) (by kernel_rfl) (by kernel_rfl)) ?_
  intro W base args ds gs before hval0 hW hcnd hsz0 _
  have hval : ∀ (j : Nat) t v, Try.f9.params[j]? = some t → args[j]? = some v → Value.okWide Try.prog W .any base t v := hval0
  have hW' := hW
  obtain ⟨p, q, hA0, hV, rfl, hfz, hnd⟩ := hW
  have hA : DataW.TrodAll enc Try.prog W 0 (fun _ => true) true Try.f9.params.toList args.toList ds p := hA0
  rw [Try.params9] at hA hval
  obtain ⟨v0, vs0, d0, ds0, p0, q0, hargs, rfl, rfl, h0, r0⟩ := trodAll_cons hA
  obtain ⟨v1, vs1, d1, ds1, p1, q1, rfl, rfl, rfl, h1, r1⟩ := trodAll_cons r0
  obtain ⟨rfl, rfl, rfl⟩ := trodAll_nil r1
  obtain rfl : args = #[v0, v1] := by cases args; simp_all
  obtain ⟨rfl, rfl⟩ := trodVars_none hV
  have k0 := h0
  have lt0 : ∀ x ∈ p0, x.block < W.heap.size := by obtain ⟨m, hm⟩ := k0; exact DataW.trod_lt m _ _ _ hm
  obtain ⟨a0, len0, cap0, rfl⟩ := okWide_slice Try.underlying89 (hval 0 89 v0 rfl rfl)
  obtain ⟨l0, rfl, hr0, hg0, hc0⟩ := (A.Opens.slice (P := Try.prog) (W := W) Try.underlying89 c165 (o165)).param h0
  have k1 := h1
  have lt1 : ∀ x ∈ p1, x.block < W.heap.size := by obtain ⟨m, hm⟩ := k1; exact DataW.trod_lt m _ _ _ hm
  obtain ⟨n1, rfl, rfl, rfl, wf1⟩ := open_int Try.underlying3 (hval 1 3 v1 rfl rfl) h1
  clear hA0 hval0
  obtain ⟨kk, hk⟩ := Go.Proofs.Ytibhfahbabgbaaa.P.TargetAgreement_pure l0 hg0 n1 wf1
  refine (A.Lw_TargetAgreement.calls kk _ _ l0 n1 true W hr0 hc0 hk).mono fun e W' ⟨he, bel⟩ => ?_
  subst he
  exact ⟨_, rfl, _, _, _, [], _, [], hW', trodAll_mk1 (shut_bool Try.underlying4 _), (trodAll_cons_mk (Below.trod laidOut (by kernel_rfl) (of_decide_eq_true (by kernel_rfl)) k0 bel lt0) (trodAll_cons_mk (Below.trod laidOut (by kernel_rfl) (of_decide_eq_true (by kernel_rfl)) k1 bel lt1) trodAll_mk0)), rfl, bel.frame _, fun h => by cases h⟩
set_option maxHeartbeats 0 in
theorem holds : Rows.TargetAgreementSaid :=
  OpenClaim.holds_of_wide 9 Try.f9 rfl rfl rfl rfl rfl rfl rfl ⟨rfl, rfl, rfl, rfl, rfl⟩ rfl rfl rfl rfl rfl (by as_aux_lemma => kernel_rfl) Try.func9 (by as_aux_lemma => kernel_rfl)
    (of_decide_eq_true (by as_aux_lemma => kernel_rfl)) (by as_aux_lemma => unfold Func.isWrapper; first | (rw [if_pos (by decide +kernel)]; kernel_rfl) | (rw [if_neg (by decide +kernel)]; exact ⟨rfl, rfl⟩))
    (fun os started H enc _ => lifted os started H enc)
#print axioms holds
end Go.Proofs.Ytibhfahbabgbaaa.targetAgreement
