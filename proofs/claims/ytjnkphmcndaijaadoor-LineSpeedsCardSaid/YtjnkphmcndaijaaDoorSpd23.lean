/- THE LAW LineSpeeds: its parameters are opened, its walk (the contract) is joined with the plain law; the row and its tied card. Written by wip/gen_law.py. -/
import Derived.Test.YtjnkphmcndaijaaDoorRows
import Derived.Test.YtjnkphmcndaijaaDoorTie
import Derived.Test.YtjnkphmcndaijaaDoorCards
import Derived.WalkKit
import Derived.ProofKit
import Derived.OpenShut
import Derived.ShutString
import Derived.ChangeOld
import Derived.Below
import Derived.SizedLaws
import Derived.Lib.SmallJoins
import Derived.Deep.Strs
import Derived.ChangeSame
import Derived.SevenTiedAt
import Derived.LaidMore
import Derived.Stop.Joined
import Derived.Test.YtjnkphmcndaijaaDoorSpd20
import Derived.Test.YtjnkphmcndaijaaDoorSpd21
import Derived.Test.YtjnkphmcndaijaaDoorSpd22
import Derived.Test.YtjnkphmcndaijaaDoorSpd02
namespace Go.Proofs.YtjnkphmcndaijaaDoor.lineSpeeds
open Go.ChangeShapes Go.WideShapes Go.ChangeAt Go.RowKit Go.Proofs.YtjnkphmcndaijaaDoorW.PrintWords Go.Deep
set_option linter.unusedVariables false
set_option linter.unusedSimpArgs false
theorem own : ownKnob Tryd.prog.godebug = none := by kernel_rfl
theorem laidOut : laidOutB Tryd.prog = true := by kernel_rfl
def IsRow (k : IntKind) (w : World) (a : Option Addr) (len cap : Nat) (zs : List Int) : Prop :=
  (a = none ∧ len = 0 ∧ cap = 0 ∧ zs = []) ∨
  ∃ x, a = some x ∧ len ≤ cap ∧ cap ≤ maxLen ∧ zs.length = cap ∧ (∀ i, i < zs.length → w.cell? (x.add i) = some (.int k (zs.getD i 0))) ∧ ∀ n ∈ zs, (Lit.int k n).wf = true
theorem c3 : Tryd.prog.cellsOf 3 = 1 := by kernel_rfl
theorem c26 : Tryd.prog.cellsOf 26 = 2 := by kernel_rfl
theorem c63 : Tryd.prog.cellsOf 63 = 3 := by kernel_rfl
theorem arr2 {α : Type} {cs : Array α} (h : cs.size = 2) : ∃ c0 c1, cs = #[c0, c1] := by
  obtain ⟨l⟩ := cs
  match l, h with
  | [c0, c1], _ => exact ⟨c0, c1, rfl⟩
theorem arr3 {α : Type} {cs : Array α} (h : cs.size = 3) : ∃ c0 c1 c2, cs = #[c0, c1, c2] := by
  obtain ⟨l⟩ := cs
  match l, h with
  | [c0, c1, c2], _ => exact ⟨c0, c1, c2, rfl⟩
set_option maxRecDepth 100000 in
theorem lifted (os : Os) (started : os.Started) (H : Type) (enc : TypeId × Value → H) :
    ReturnsInHanded {} Tryd.checked os 7 .any (fun w args => (Rows.lineSpeedsSpec.pre enc Tryd.prog Tryd.f7 [] false w args ∧ laidMetH Tryd.prog Laid.est w) ∧ sizedMet enc Tryd.prog Tryd.f7 (OpenSpec.ofChange Rows.lineSpeedsSpec) false w args)
      (Rows.lineSpeedsSpec.post enc Tryd.prog Tryd.f7 false true false false) := by
  refine returnsInHanded_of_change_and (C := Tryd.checked) (X := fun w _ => laidMetH Tryd.prog Laid.est w) (fun _ _ _ hh h => h.of_heap hh) own started (by kernel_rfl) Tryd.func7
    (ChangeSpec.witness_shaped (enc := enc) (C := Tryd.checked) (os := os) (X := fun w _ => laidMetH Tryd.prog Laid.est w) false (World.doorLaid Tryd.prog 600 os) #[.agg #[.int .i64 0, .int .i64 0], .agg #[.int .i64 0, .int .i64 0, .int .i64 0]] 8 rfl (World.shaped_of_RefB (by kernel_rfl) (by kernel_rfl)) (by kernel_rfl) (by kernel_rfl) (by kernel_rfl) (Laid.door_met os _)) ?_
  intro W base args ds gs before hval0 hW _ hsz0 hL _
  have hG := Laid.estG hL
  have hval : ∀ (j : Nat) t v, Tryd.f7.params[j]? = some t → args[j]? = some v → Value.okWide Tryd.prog W .any base t v := hval0
  have hW' := hW
  obtain ⟨p, q, hA0, hV, rfl, hfz, hnd⟩ := hW
  have hA : DataW.TrodAll enc Tryd.prog W 0 (fun _ => true) true Tryd.f7.params.toList args.toList ds p := hA0
  rw [Tryd.params7] at hA hval
  obtain ⟨v0, vs0, d0, ds0, p0, q0, hargs, rfl, rfl, h0, r0⟩ := trodAll_cons hA
  obtain ⟨v1, vs1, d1, ds1, p1, q1, rfl, rfl, rfl, h1, r1⟩ := trodAll_cons r0
  obtain ⟨rfl, rfl, rfl⟩ := trodAll_nil r1
  obtain rfl : args = #[v0, v1] := by cases args; simp_all
  obtain ⟨rfl, rfl⟩ := trodVars_none hV
  have k0 := h0
  have lt0 : ∀ x ∈ p0, x.block < W.heap.size := by obtain ⟨m, hm⟩ := k0; exact DataW.trod_lt m _ _ _ hm
  obtain ⟨cs0, rfl, hz0⟩ := okWide_struct Tryd.underlying26 (hval 0 26 v0 rfl rfl)
  obtain ⟨x0_0, x0_1, rfl⟩ := arr2 (hz0.trans c26)
  obtain ⟨fuel0, hf0⟩ := h0
  obtain ⟨y1_0, y1_1, m1, _, _, s1_0, s1_1⟩ := trod_struct2 Tryd.underlying26 hf0
  replace s1_0 : DataW.trod enc Tryd.prog W 0 (fun _ => true) true m1 3 [x0_0] = some y1_0 := by simpa [Value.cells, c3] using s1_0
  obtain ⟨n0_0, e0_0, _, wf0_0⟩ := DataW.trod_int Tryd.underlying3 s1_0
  obtain rfl : x0_0 = .int .i64 n0_0 := by simpa [Value.cells] using e0_0
  replace s1_1 : DataW.trod enc Tryd.prog W 0 (fun _ => true) true m1 3 [x0_1] = some y1_1 := by simpa [Value.cells, c3] using s1_1
  obtain ⟨n0_1, e0_1, _, wf0_1⟩ := DataW.trod_int Tryd.underlying3 s1_1
  obtain rfl : x0_1 = .int .i64 n0_1 := by simpa [Value.cells] using e0_1
  have k1 := h1
  have lt1 : ∀ x ∈ p1, x.block < W.heap.size := by obtain ⟨m, hm⟩ := k1; exact DataW.trod_lt m _ _ _ hm
  obtain ⟨cs1, rfl, hz1⟩ := okWide_struct Tryd.underlying63 (hval 1 63 v1 rfl rfl)
  obtain ⟨x1_0, x1_1, x1_2, rfl⟩ := arr3 (hz1.trans c63)
  obtain ⟨fuel1, hf1⟩ := h1
  obtain ⟨y2_0, y2_1, y2_2, m2, _, _, s2_0, s2_1, s2_2⟩ := trod_struct3 Tryd.underlying63 hf1
  replace s2_0 : DataW.trod enc Tryd.prog W 0 (fun _ => true) true m2 3 [x1_0] = some y2_0 := by simpa [Value.cells, c3] using s2_0
  obtain ⟨n1_0, e1_0, _, wf1_0⟩ := DataW.trod_int Tryd.underlying3 s2_0
  obtain rfl : x1_0 = .int .i64 n1_0 := by simpa [Value.cells] using e1_0
  replace s2_1 : DataW.trod enc Tryd.prog W 0 (fun _ => true) true m2 3 [x1_1] = some y2_1 := by simpa [Value.cells, c3] using s2_1
  obtain ⟨n1_1, e1_1, _, wf1_1⟩ := DataW.trod_int Tryd.underlying3 s2_1
  obtain rfl : x1_1 = .int .i64 n1_1 := by simpa [Value.cells] using e1_1
  replace s2_2 : DataW.trod enc Tryd.prog W 0 (fun _ => true) true m2 3 [x1_2] = some y2_2 := by simpa [Value.cells, c3] using s2_2
  obtain ⟨n1_2, e1_2, _, wf1_2⟩ := DataW.trod_int Tryd.underlying3 s2_2
  obtain rfl : x1_2 = .int .i64 n1_2 := by simpa [Value.cells] using e1_2
  clear hA0 hval0
  obtain ⟨kk, hk⟩ := Go.Proofs.YtjnkphmcndaijaaDoor.P.LineSpeeds_pure n0_0 wf0_0 n0_1 wf0_1 n1_0 wf1_0 n1_1 wf1_1 n1_2 wf1_2
  refine (A.Lw_LineSpeeds.calls kk n0_0 n0_1 n1_0 n1_1 n1_2 true W  hG hk).mono fun e W' ⟨he, bel⟩ => ?_
  subst he
  exact ⟨_, rfl, _, _, _, [], _, [], hW', trodAll_mk1 (shut_bool Tryd.underlying4 _), (trodAll_cons_mk (Below.trod laidOut (by kernel_rfl) (of_decide_eq_true (by kernel_rfl)) k0 bel lt0) (trodAll_cons_mk (Below.trod laidOut (by kernel_rfl) (of_decide_eq_true (by kernel_rfl)) k1 bel lt1) trodAll_mk0)), rfl, bel.frame _, fun h => by cases h⟩
set_option maxHeartbeats 0 in
theorem holds : Rows.LineSpeedsSaid :=
  OpenClaim.holds_of_wide 7 Tryd.f7 rfl rfl rfl rfl rfl rfl rfl ⟨rfl, rfl, rfl, rfl, rfl⟩ rfl rfl rfl rfl rfl (by as_aux_lemma => kernel_rfl) Tryd.func7 (by as_aux_lemma => kernel_rfl)
    (of_decide_eq_true (by as_aux_lemma => kernel_rfl)) (by as_aux_lemma => unfold Func.isWrapper; first | (rw [if_pos (by decide +kernel)]; kernel_rfl) | (rw [if_neg (by decide +kernel)]; exact ⟨rfl, rfl⟩))
    (fun os started H enc _ => lifted os started H enc)
set_option maxHeartbeats 0 in
theorem card_holds : Rows.LineSpeedsCardSaid :=
  Claim7.holds_tied_plain_at .later [] [.funcs] true (true, "68e00fe0a35a8614ebfed6647c7fba239f0b04e0ac74a56cc64fe3ff6b44e14d") false
    holds (fun _ h => by cases h) (by as_aux_lemma => kernel_rfl) (fun _ h => by cases h) lineSpeeds_row_tie rfl ⟨rfl, rfl⟩ (by as_aux_lemma => kernel_rfl) rfl
    (fun f fn hf hfn => by
      obtain rfl : f = 7 := Option.some.inj ((show Tryd.prog.funcNamed "glidepath/glidepathlaw02.LineSpeeds" = some 7 by as_aux_lemma => kernel_rfl).symm.trans hf) |>.symm
      obtain rfl : fn = Tryd.f7 := (Option.some.inj (Tryd.func7.symm.trans hfn)).symm
      exact ⟨by as_aux_lemma => kernel_rfl, fun j t ht => by
        rw [Tryd.params7] at ht
        have hm : t ∈ [26, 63] := by simpa using Array.mem_of_getElem? ht
        have hall : ([26, 63].all fun u => !Tryd.prog.wantsStandIn u) = true := by as_aux_lemma => kernel_rfl
        exact (show Tryd.prog.wantsStandIn t = false by simpa using List.all_eq_true.1 hall t hm)⟩)
    (by as_aux_lemma => kernel_rfl)
#print axioms card_holds
end Go.Proofs.YtjnkphmcndaijaaDoor.lineSpeeds
