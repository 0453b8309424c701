/- THE LAW LineBest: its parameters are opened, its walk (the contract) is joined with the plain law; the row and its tied card. Written by wip/gen_law.py. -/
import Derived.Test.YtjnkphmcndaijaaDoorRows
import Derived.Test.YtjnkphmcndaijaaDoorTie
import Derived.Test.YtjnkphmcndaijaaDoorCards
import Derived.WalkKit
import Derived.ProofKit
import Derived.OpenShut
import Derived.ShutString
import Derived.ChangeOld
import Derived.Below
import Derived.SizedLaws
import Derived.Lib.SmallJoins
import Derived.Deep.Strs
import Derived.ChangeSame
import Derived.SevenTiedAt
import Derived.LaidMore
import Derived.Stop.Joined
import Derived.Test.YtjnkphmcndaijaaDoorBes18
import Derived.Test.YtjnkphmcndaijaaDoorBes19
import Derived.Test.YtjnkphmcndaijaaDoorBes20
import Derived.Test.YtjnkphmcndaijaaDoorBes02
namespace Go.Proofs.YtjnkphmcndaijaaDoor.lineBest
open Go.ChangeShapes Go.WideShapes Go.ChangeAt Go.RowKit Go.Proofs.YtjnkphmcndaijaaDoorW.PrintWords Go.Deep
set_option linter.unusedVariables false
set_option linter.unusedSimpArgs false
theorem own : ownKnob Tryd.prog.godebug = none := by kernel_rfl
theorem laidOut : laidOutB Tryd.prog = true := by kernel_rfl
def IsRow (k : IntKind) (w : World) (a : Option Addr) (len cap : Nat) (zs : List Int) : Prop :=
  (a = none ∧ len = 0 ∧ cap = 0 ∧ zs = []) ∨
  ∃ x, a = some x ∧ len ≤ cap ∧ cap ≤ maxLen ∧ zs.length = cap ∧ (∀ i, i < zs.length → w.cell? (x.add i) = some (.int k (zs.getD i 0))) ∧ ∀ n ∈ zs, (Lit.int k n).wf = true
theorem c3 : Tryd.prog.cellsOf 3 = 1 := by kernel_rfl
theorem c22 : Tryd.prog.cellsOf 22 = 1 := by kernel_rfl
theorem c24 : Tryd.prog.cellsOf 24 = 1 := by kernel_rfl
theorem c26 : Tryd.prog.cellsOf 26 = 2 := by kernel_rfl
theorem c28 : Tryd.prog.cellsOf 28 = 4 := by kernel_rfl
theorem arr4 {α : Type} {cs : Array α} (h : cs.size = 4) : ∃ c0 c1 c2 c3, cs = #[c0, c1, c2, c3] := by
  obtain ⟨l⟩ := cs
  match l, h with
  | [c0, c1, c2, c3], _ => exact ⟨c0, c1, c2, c3, rfl⟩
set_option maxRecDepth 100000 in
theorem lifted (os : Os) (started : os.Started) (H : Type) (enc : TypeId × Value → H) :
    ReturnsInHanded {} Tryd.checked os 11 .any (fun w args => (Rows.lineBestSpec.pre enc Tryd.prog Tryd.f11 [] false w args ∧ laidMetH Tryd.prog Laid.est w) ∧ sizedMet enc Tryd.prog Tryd.f11 (OpenSpec.ofChange Rows.lineBestSpec) false w args)
      (Rows.lineBestSpec.post enc Tryd.prog Tryd.f11 false true false false) := by
  refine returnsInHanded_of_change_and (C := Tryd.checked) (X := fun w _ => laidMetH Tryd.prog Laid.est w) (fun _ _ _ hh h => h.of_heap hh) own started (by kernel_rfl) Tryd.func11
    (ChangeSpec.witness_shaped (enc := enc) (C := Tryd.checked) (os := os) (X := fun w _ => laidMetH Tryd.prog Laid.est w) false (World.doorLaid Tryd.prog 600 os) #[.agg #[.slice none 0 0, .slice none 0 0, .int .i64 0, .int .i64 0], .slice none 0 0] 8 rfl (World.shaped_of_RefB (by kernel_rfl) (by kernel_rfl)) (by kernel_rfl) (by kernel_rfl) (by kernel_rfl) (Laid.door_met os _)) ?_
  intro W base args ds gs before hval0 hW _ hsz0 hL _
  have hG := Laid.estG hL
  have hval : ∀ (j : Nat) t v, Tryd.f11.params[j]? = some t → args[j]? = some v → Value.okWide Tryd.prog W .any base t v := hval0
  have hW' := hW
  obtain ⟨p, q, hA0, hV, rfl, hfz, hnd⟩ := hW
  have hA : DataW.TrodAll enc Tryd.prog W 0 (fun _ => true) true Tryd.f11.params.toList args.toList ds p := hA0
  rw [Tryd.params11] at hA hval
  obtain ⟨v0, vs0, d0, ds0, p0, q0, hargs, rfl, rfl, h0, r0⟩ := trodAll_cons hA
  obtain ⟨v1, vs1, d1, ds1, p1, q1, rfl, rfl, rfl, h1, r1⟩ := trodAll_cons r0
  obtain ⟨rfl, rfl, rfl⟩ := trodAll_nil r1
  obtain rfl : args = #[v0, v1] := by cases args; simp_all
  obtain ⟨rfl, rfl⟩ := trodVars_none hV
  have k0 := h0
  have lt0 : ∀ x ∈ p0, x.block < W.heap.size := by obtain ⟨m, hm⟩ := k0; exact DataW.trod_lt m _ _ _ hm
  obtain ⟨cs0, rfl, hz0⟩ := okWide_struct Tryd.underlying28 (hval 0 28 v0 rfl rfl)
  obtain ⟨x0_0, x0_1, x0_2, x0_3, rfl⟩ := arr4 (hz0.trans c28)
  obtain ⟨fuel0, hf0⟩ := h0
  obtain ⟨y1_0, y1_1, y1_2, m1, _, _, s1_0, s1_1, s1_2⟩ := trod_struct3 Tryd.underlying28 hf0
  replace s1_0 : DataW.trod enc Tryd.prog W 0 (fun _ => true) true m1 22 [x0_0] = some y1_0 := by simpa [Value.cells, c22] using s1_0
  obtain ⟨a0_0, len0_0, cap0_0, z0_0, e0_0, w0_0⟩ : ∃ a len cap zs, x0_0 = .slice a len cap ∧ IsRow .i64 W a len cap zs := by
    rcases open_ints Tryd.underlying22 Tryd.underlying3 (by kernel_rfl) s1_0 with ⟨hcs, _⟩ | ⟨x, l, c, zs, hcs, _, hl, hm, hz, _, hcell, hwz⟩
    · exact ⟨none, 0, 0, [], by simpa [Value.cells] using hcs, .inl ⟨rfl, rfl, rfl, rfl⟩⟩
    · exact ⟨_, _, _, zs, by simpa [Value.cells] using hcs, .inr ⟨_, rfl, hl, hm, by simpa using hz, hcell, hwz⟩⟩
  subst e0_0
  obtain ⟨l0_0, rfl, hr0_0, hm0_0, hw0_0, hc0_0⟩ := ReadsInt.ofRowC w0_0
  replace s1_1 : DataW.trod enc Tryd.prog W 0 (fun _ => true) true m1 24 [x0_1] = some y1_1 := by simpa [Value.cells, c24] using s1_1
  obtain ⟨y2_0, m2, _, _, s2_0⟩ := trod_struct1 Tryd.underlying24 s1_1
  replace s2_0 : DataW.trod enc Tryd.prog W 0 (fun _ => true) true m2 22 [x0_1] = some y2_0 := by simpa [Value.cells, c22] using s2_0
  obtain ⟨a0_1, len0_1, cap0_1, z0_1, e0_1, w0_1⟩ : ∃ a len cap zs, x0_1 = .slice a len cap ∧ IsRow .i64 W a len cap zs := by
    rcases open_ints Tryd.underlying22 Tryd.underlying3 (by kernel_rfl) s2_0 with ⟨hcs, _⟩ | ⟨x, l, c, zs, hcs, _, hl, hm, hz, _, hcell, hwz⟩
    · exact ⟨none, 0, 0, [], by simpa [Value.cells] using hcs, .inl ⟨rfl, rfl, rfl, rfl⟩⟩
    · exact ⟨_, _, _, zs, by simpa [Value.cells] using hcs, .inr ⟨_, rfl, hl, hm, by simpa using hz, hcell, hwz⟩⟩
  subst e0_1
  obtain ⟨l0_1, rfl, hr0_1, hm0_1, hw0_1, hc0_1⟩ := ReadsInt.ofRowC w0_1
  replace s1_2 : DataW.trod enc Tryd.prog W 0 (fun _ => true) true m1 26 [x0_2, x0_3] = some y1_2 := by simpa [Value.cells, c26] using s1_2
  obtain ⟨y3_0, y3_1, m3, _, _, s3_0, s3_1⟩ := trod_struct2 Tryd.underlying26 s1_2
  replace s3_0 : DataW.trod enc Tryd.prog W 0 (fun _ => true) true m3 3 [x0_2] = some y3_0 := by simpa [Value.cells, c3] using s3_0
  obtain ⟨n0_2, e0_2, _, wf0_2⟩ := DataW.trod_int Tryd.underlying3 s3_0
  obtain rfl : x0_2 = .int .i64 n0_2 := by simpa [Value.cells] using e0_2
  replace s3_1 : DataW.trod enc Tryd.prog W 0 (fun _ => true) true m3 3 [x0_3] = some y3_1 := by simpa [Value.cells, c3] using s3_1
  obtain ⟨n0_3, e0_3, _, wf0_3⟩ := DataW.trod_int Tryd.underlying3 s3_1
  obtain rfl : x0_3 = .int .i64 n0_3 := by simpa [Value.cells] using e0_3
  have k1 := h1
  have lt1 : ∀ x ∈ p1, x.block < W.heap.size := by obtain ⟨m, hm⟩ := k1; exact DataW.trod_lt m _ _ _ hm
  obtain ⟨a1, len1, cap1, rfl⟩ := okWide_slice Tryd.underlying22 (hval 1 22 v1 rfl rfl)
  obtain ⟨z1, w1⟩ : ∃ zs, IsRow .i64 W a1 len1 cap1 zs := by
    obtain ⟨fuel, hf⟩ := h1
    rcases open_ints Tryd.underlying22 Tryd.underlying3 (by kernel_rfl) hf with ⟨hcs, _⟩ | ⟨x, l, c, zs, hcs, _, hl, hm, hz, _, hcell, hwz⟩
    · simp [Value.cells] at hcs
      obtain ⟨rfl, rfl, rfl⟩ := hcs
      exact ⟨[], .inl ⟨rfl, rfl, rfl, rfl⟩⟩
    · simp [Value.cells] at hcs
      obtain ⟨rfl, rfl, rfl⟩ := hcs
      exact ⟨zs, .inr ⟨_, rfl, hl, hm, by simpa using hz, hcell, hwz⟩⟩
  obtain ⟨l1, rfl, hr1, hm1, hw1, hc1⟩ := ReadsInt.ofRowC w1
  clear hA0 hval0
  obtain ⟨kk, hk⟩ := Go.Proofs.YtjnkphmcndaijaaDoor.P.LineBest_pure l0_0 hm0_0 hw0_0 l0_1 hm0_1 hw0_1 n0_2 wf0_2 n0_3 wf0_3 l1 hm1 hw1
  refine (A.Lw_LineBest.calls kk _ _ l0_0 _ _ l0_1 n0_2 n0_3 _ _ l1 true W (Kd.C_of_reads (d := (0 : Int)) (h1 := fun _ => rfl) hr0_0) hc0_0 (Kd.C_of_reads (d := (0 : Int)) (h1 := fun _ => rfl) hr0_1) hc0_1 (Kd.C_of_reads (d := (0 : Int)) (h1 := fun _ => rfl) hr1) hc1 hG hk).mono fun e W' ⟨he, bel⟩ => ?_
  subst he
  exact ⟨_, rfl, _, _, _, [], _, [], hW', trodAll_mk1 (shut_bool Tryd.underlying4 _), (trodAll_cons_mk (Below.trod laidOut (by kernel_rfl) (of_decide_eq_true (by kernel_rfl)) k0 bel lt0) (trodAll_cons_mk (Below.trod laidOut (by kernel_rfl) (of_decide_eq_true (by kernel_rfl)) k1 bel lt1) trodAll_mk0)), rfl, bel.frame _, fun h => by cases h⟩
set_option maxHeartbeats 0 in
theorem holds : Rows.LineBestSaid :=
  OpenClaim.holds_of_wide 11 Tryd.f11 rfl rfl rfl rfl rfl rfl rfl ⟨rfl, rfl, rfl, rfl, rfl⟩ rfl rfl rfl rfl rfl (by as_aux_lemma => kernel_rfl) Tryd.func11 (by as_aux_lemma => kernel_rfl)
    (of_decide_eq_true (by as_aux_lemma => kernel_rfl)) (by as_aux_lemma => unfold Func.isWrapper; first | (rw [if_pos (by decide +kernel)]; kernel_rfl) | (rw [if_neg (by decide +kernel)]; exact ⟨rfl, rfl⟩))
    (fun os started H enc _ => lifted os started H enc)
set_option maxHeartbeats 0 in
theorem card_holds : Rows.LineBestCardSaid :=
  Claim7.holds_tied_plain_at .later [] [.funcs] true (true, "68e00fe0a35a8614ebfed6647c7fba239f0b04e0ac74a56cc64fe3ff6b44e14d") false
    holds (fun _ h => by cases h) (by as_aux_lemma => kernel_rfl) (fun _ h => by cases h) lineBest_row_tie rfl ⟨rfl, rfl⟩ (by as_aux_lemma => kernel_rfl) rfl
    (fun f fn hf hfn => by
      obtain rfl : f = 11 := Option.some.inj ((show Tryd.prog.funcNamed "glidepath/glidepathlaw02.LineBest" = some 11 by as_aux_lemma => kernel_rfl).symm.trans hf) |>.symm
      obtain rfl : fn = Tryd.f11 := (Option.some.inj (Tryd.func11.symm.trans hfn)).symm
      exact ⟨by as_aux_lemma => kernel_rfl, fun j t ht => by
        rw [Tryd.params11] at ht
        have hm : t ∈ [28, 22] := by simpa using Array.mem_of_getElem? ht
        have hall : ([28, 22].all fun u => !Tryd.prog.wantsStandIn u) = true := by as_aux_lemma => kernel_rfl
        exact (show Tryd.prog.wantsStandIn t = false by simpa using List.all_eq_true.1 hall t hm)⟩)
    (by as_aux_lemma => kernel_rfl)
#print axioms card_holds
end Go.Proofs.YtjnkphmcndaijaaDoor.lineBest
