/- THE LAW LineHard: its parameters are opened, its walk (the contract) is joined with the plain law; the row and its tied card. Written by wip/gen_law.py. -/
import Derived.Test.YtjnkphmcndaijaaDoorRows
import Derived.Test.YtjnkphmcndaijaaDoorTie
import Derived.Test.YtjnkphmcndaijaaDoorCards
import Derived.WalkKit
import Derived.ProofKit
import Derived.OpenShut
import Derived.ShutString
import Derived.ChangeOld
import Derived.Below
import Derived.SizedLaws
import Derived.Lib.SmallJoins
import Derived.Deep.Strs
import Derived.ChangeSame
import Derived.SevenTiedAt
import Derived.LaidMore
import Derived.Stop.Joined
import Derived.Test.YtjnkphmcndaijaaDoorHar15
import Derived.Test.YtjnkphmcndaijaaDoorHar16
import Derived.Test.YtjnkphmcndaijaaDoorHar17
import Derived.Test.YtjnkphmcndaijaaDoorHar02
import Derived.Test.YtjnkphmcndaijaaDoorHar18
namespace Go.Proofs.YtjnkphmcndaijaaDoor.lineHard
open Go.ChangeShapes Go.WideShapes Go.ChangeAt Go.RowKit Go.Proofs.YtjnkphmcndaijaaDoorW.PrintWords Go.Deep Go.Joins
set_option linter.unusedVariables false
set_option linter.unusedSimpArgs false
theorem own : ownKnob Tryd.prog.godebug = none := by kernel_rfl
theorem laidOut : laidOutB Tryd.prog = true := by kernel_rfl
def IsRow (k : IntKind) (w : World) (a : Option Addr) (len cap : Nat) (zs : List Int) : Prop :=
  (a = none ∧ len = 0 ∧ cap = 0 ∧ zs = []) ∨
  ∃ x, a = some x ∧ len ≤ cap ∧ cap ≤ maxLen ∧ zs.length = cap ∧ (∀ i, i < zs.length → w.cell? (x.add i) = some (.int k (zs.getD i 0))) ∧ ∀ n ∈ zs, (Lit.int k n).wf = true
theorem c3 : Tryd.prog.cellsOf 3 = 1 := by kernel_rfl
theorem c22 : Tryd.prog.cellsOf 22 = 1 := by kernel_rfl
theorem c92 : Tryd.prog.cellsOf 92 = 1 := by kernel_rfl
theorem c94 : Tryd.prog.cellsOf 94 = 4 := by kernel_rfl
theorem arr4 {α : Type} {cs : Array α} (h : cs.size = 4) : ∃ c0 c1 c2 c3, cs = #[c0, c1, c2, c3] := by
  obtain ⟨l⟩ := cs
  match l, h with
  | [c0, c1, c2, c3], _ => exact ⟨c0, c1, c2, c3, rfl⟩
set_option maxRecDepth 100000 in
theorem lifted (os : Os) (started : os.Started) (H : Type) (enc : TypeId × Value → H) :
    ReturnsInHanded {} Tryd.checked os 13 .any (fun w args => (Rows.lineHardSpec.pre enc Tryd.prog Tryd.f13 [] false w args ∧ laidMetH Tryd.prog Laid.est w) ∧ sizedMet enc Tryd.prog Tryd.f13 (OpenSpec.ofChange Rows.lineHardSpec) false w args)
      (Rows.lineHardSpec.post enc Tryd.prog Tryd.f13 false true false false) := by
  refine returnsInHanded_of_change_and (C := Tryd.checked) (X := fun w _ => laidMetH Tryd.prog Laid.est w) (fun _ _ _ hh h => h.of_heap hh) own started (by kernel_rfl) Tryd.func13
    (ChangeSpec.witness_shaped (enc := enc) (C := Tryd.checked) (os := os) (X := fun w _ => laidMetH Tryd.prog Laid.est w) false (World.doorLaid Tryd.prog 600 os) #[.slice none 0 0, .agg #[.int .i64 0, .int .i64 0, .int .i64 0, .int .i64 0], .int .i64 0] 8 rfl (World.shaped_of_RefB (by kernel_rfl) (by kernel_rfl)) (by kernel_rfl) (by kernel_rfl) (by kernel_rfl) (Laid.door_met os _)) ?_
  intro W base args ds gs before hval0 hW _ hsz0 hL _
  have hG := Laid.estG hL
  have hval : ∀ (j : Nat) t v, Tryd.f13.params[j]? = some t → args[j]? = some v → Value.okWide Tryd.prog W .any base t v := hval0
  have hW' := hW
  obtain ⟨p, q, hA0, hV, rfl, hfz, hnd⟩ := hW
  have hA : DataW.TrodAll enc Tryd.prog W 0 (fun _ => true) true Tryd.f13.params.toList args.toList ds p := hA0
  rw [Tryd.params13] at hA hval
  obtain ⟨v0, vs0, d0, ds0, p0, q0, hargs, rfl, rfl, h0, r0⟩ := trodAll_cons hA
  obtain ⟨v1, vs1, d1, ds1, p1, q1, rfl, rfl, rfl, h1, r1⟩ := trodAll_cons r0
  obtain ⟨v2, vs2, d2, ds2, p2, q2, rfl, rfl, rfl, h2, r2⟩ := trodAll_cons r1
  obtain ⟨rfl, rfl, rfl⟩ := trodAll_nil r2
  obtain rfl : args = #[v0, v1, v2] := by cases args; simp_all
  obtain ⟨rfl, rfl⟩ := trodVars_none hV
  have k0 := h0
  have lt0 : ∀ x ∈ p0, x.block < W.heap.size := by obtain ⟨m, hm⟩ := k0; exact DataW.trod_lt m _ _ _ hm
  obtain ⟨a0, len0, cap0, rfl⟩ := okWide_slice Tryd.underlying92 (hval 0 92 v0 rfl rfl)
  obtain ⟨l0, rfl, hr0, hg0, hc0⟩ := (A.Opens.slice (P := Tryd.prog) (W := W) Tryd.underlying92 c22 (A.Opens.slice (P := Tryd.prog) (W := W) Tryd.underlying22 c3 (A.Opens.int (P := Tryd.prog) (W := W) Tryd.underlying3))).param h0
  have k1 := h1
  have lt1 : ∀ x ∈ p1, x.block < W.heap.size := by obtain ⟨m, hm⟩ := k1; exact DataW.trod_lt m _ _ _ hm
  obtain ⟨cs1, rfl, hz1⟩ := okWide_struct Tryd.underlying94 (hval 1 94 v1 rfl rfl)
  obtain ⟨x1_0, x1_1, x1_2, x1_3, rfl⟩ := arr4 (hz1.trans c94)
  obtain ⟨fuel1, hf1⟩ := h1
  obtain ⟨y1_0, y1_1, y1_2, y1_3, m1, _, _, s1_0, s1_1, s1_2, s1_3⟩ := trod_struct4 Tryd.underlying94 hf1
  replace s1_0 : DataW.trod enc Tryd.prog W 0 (fun _ => true) true m1 3 [x1_0] = some y1_0 := by simpa [Value.cells, c3] using s1_0
  obtain ⟨n1_0, e1_0, _, wf1_0⟩ := DataW.trod_int Tryd.underlying3 s1_0
  obtain rfl : x1_0 = .int .i64 n1_0 := by simpa [Value.cells] using e1_0
  replace s1_1 : DataW.trod enc Tryd.prog W 0 (fun _ => true) true m1 3 [x1_1] = some y1_1 := by simpa [Value.cells, c3] using s1_1
  obtain ⟨n1_1, e1_1, _, wf1_1⟩ := DataW.trod_int Tryd.underlying3 s1_1
  obtain rfl : x1_1 = .int .i64 n1_1 := by simpa [Value.cells] using e1_1
  replace s1_2 : DataW.trod enc Tryd.prog W 0 (fun _ => true) true m1 3 [x1_2] = some y1_2 := by simpa [Value.cells, c3] using s1_2
  obtain ⟨n1_2, e1_2, _, wf1_2⟩ := DataW.trod_int Tryd.underlying3 s1_2
  obtain rfl : x1_2 = .int .i64 n1_2 := by simpa [Value.cells] using e1_2
  replace s1_3 : DataW.trod enc Tryd.prog W 0 (fun _ => true) true m1 3 [x1_3] = some y1_3 := by simpa [Value.cells, c3] using s1_3
  obtain ⟨n1_3, e1_3, _, wf1_3⟩ := DataW.trod_int Tryd.underlying3 s1_3
  obtain rfl : x1_3 = .int .i64 n1_3 := by simpa [Value.cells] using e1_3
  have k2 := h2
  have lt2 : ∀ x ∈ p2, x.block < W.heap.size := by obtain ⟨m, hm⟩ := k2; exact DataW.trod_lt m _ _ _ hm
  obtain ⟨n2, rfl, rfl, rfl, wf2⟩ := open_int Tryd.underlying3 (hval 2 3 v2 rfl rfl) h2
  clear hA0 hval0
  obtain ⟨kk, hk⟩ := Go.Proofs.YtjnkphmcndaijaaDoor.P.LineHard_pure l0 hg0 n1_0 wf1_0 n1_1 wf1_1 n1_2 wf1_2 n1_3 wf1_3 n2 wf2
  refine (A.Lw_LineHard.calls kk _ _ l0 n1_0 n1_1 n1_2 n1_3 n2 true W hr0 hc0 hG hk).mono fun e W' ⟨he, bel⟩ => ?_
  subst he
  exact ⟨_, rfl, _, _, _, [], _, [], hW', trodAll_mk1 (shut_bool Tryd.underlying4 _), (trodAll_cons_mk (Below.trod laidOut (by kernel_rfl) (of_decide_eq_true (by kernel_rfl)) k0 bel lt0) (trodAll_cons_mk (Below.trod laidOut (by kernel_rfl) (of_decide_eq_true (by kernel_rfl)) k1 bel lt1) (trodAll_cons_mk (Below.trod laidOut (by kernel_rfl) (of_decide_eq_true (by kernel_rfl)) k2 bel lt2) trodAll_mk0))), rfl, bel.frame _, fun h => by cases h⟩
theorem holds : Rows.LineHardSaid :=
  OpenClaim.holds_of_wide 13 Tryd.f13 rfl rfl rfl rfl rfl rfl rfl ⟨rfl, rfl, rfl, rfl, rfl⟩ rfl rfl rfl rfl rfl (by kernel_rfl) Tryd.func13 (by kernel_rfl)
    (of_decide_eq_true (by kernel_rfl)) (by unfold Func.isWrapper; first | (rw [if_pos (by decide +kernel)]; kernel_rfl) | (rw [if_neg (by decide +kernel)]; exact ⟨rfl, rfl⟩))
    (fun os started H enc _ => lifted os started H enc)
theorem card_holds : Rows.LineHardCardSaid :=
  Claim7.holds_tied_plain_at .later [] [.funcs] true (true, "68e00fe0a35a8614ebfed6647c7fba239f0b04e0ac74a56cc64fe3ff6b44e14d") false
    holds (fun _ h => by cases h) (by kernel_rfl) (fun _ h => by cases h) lineHard_row_tie rfl ⟨rfl, rfl⟩ (by kernel_rfl) rfl
    (fun f fn hf hfn => by
      obtain rfl : f = 13 := Option.some.inj ((show Tryd.prog.funcNamed "glidepath/glidepathlaw02.LineHard" = some 13 by kernel_rfl).symm.trans hf) |>.symm
      obtain rfl : fn = Tryd.f13 := (Option.some.inj (Tryd.func13.symm.trans hfn)).symm
      exact ⟨by kernel_rfl, fun j t ht => by
        rw [Tryd.params13] at ht
        have hm : t ∈ [92, 94, 3] := by simpa using Array.mem_of_getElem? ht
        have hall : ([92, 94, 3].all fun u => !Tryd.prog.wantsStandIn u) = true := by kernel_rfl
        exact (show Tryd.prog.wantsStandIn t = false by simpa using List.all_eq_true.1 hall t hm)⟩)
    (by kernel_rfl)
#print axioms card_holds
end Go.Proofs.YtjnkphmcndaijaaDoor.lineHard
