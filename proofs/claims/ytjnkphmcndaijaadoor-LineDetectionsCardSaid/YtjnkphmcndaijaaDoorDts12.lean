/- Walks of the program's functions (printed, made shorter), each with what it computes. -/
import Derived.Test.YtjnkphmcndaijaaDoorDts04
import Derived.Test.YtjnkphmcndaijaaDoorDts06
import Derived.Test.YtjnkphmcndaijaaDoorDts03
import Derived.Test.YtjnkphmcndaijaaDoorDts11
namespace Go.Proofs.YtjnkphmcndaijaaDoor.A
set_option maxHeartbeats 8000000
set_option maxRecDepth 100000
open Go.RowKit Go.Proofs.YtjnkphmcndaijaaDoorW.PrintWords Go.Proofs.YtjnkphmcndaijaaDoorW.PrintLast Go.Proofs.YtjnkphmcndaijaaDoorW.PrintMore
attribute [local go_sem] max2_int min2_int max_two min_two max_three min_three max_four min_four
set_option linter.unusedVariables false
set_option linter.unusedSimpArgs false
section
def line_openNoise.f (k : Nat) (l0_0 : List Int) (a1 : Int) : Option (List Int × Int) := (line_CheckNoise.f l0_0).bind fun bt301 => ((line_within.f a1 1 16).bind fun t303 => ((line_unless.f t303 2).bind fun t304 => ((line_first.f k (([bt301.2, t304] : List Int))).bind fun t308 => (if t308 = 0 then ((line_cases.f k l0_0 a1).bind fun bt309 => (if 0 ≤ a1 then (if (a1 : Int).toNat ≤ 35184372088832 then ((line_unless.f bt309.2 8).bind fun t314 => (some ((List.replicate (a1 : Int).toNat 0), t314))) else (none)) else (none))) else (some (([] : List Int), t308))))))
theorem line_openNoise.mono : ∀ a0 a1 k, LeO (line_openNoise.f k a0 a1) (line_openNoise.f (k + 1) a0 a1) := by
 intro a0 a1 k
 unfold line_openNoise.f
 repeat' first
   | (with_reducible exact line_cases.mono _ _ _)
   | (with_reducible exact line_first.mono _ _)
   | (with_reducible exact LeO.refl _)
   | (with_reducible exact LeO.none _)
   | (with_reducible refine LeO.ite ?_ ?_)
   | (with_reducible refine LeO.bind ?_ (fun _ => ?_))
   | exact line_cases.mono _ _ _
   | exact line_first.mono _ _
   | exact LeO.none _
   | refine LeO.ite ?_ ?_
   | refine LeO.bind ?_ (fun _ => ?_)
theorem line_openNoise.calls (k : Nat) (A0_0 : Option Addr) (c0_0 : Nat) (l0_0 : List Int) (a1 : Int) (r1 : List Int) (r2 : Int) (w : World) (hr0_0 : Kd.C (Kd.int .i64) w A0_0 l0_0.length l0_0) (hc0_0 : l0_0.length ≤ c0_0) (h : line_openNoise.f k l0_0 a1 = some (r1, r2)) :
  Calls Tryd.prog 129 #[.agg #[.slice A0_0 l0_0.length c0_0], .int .i64 a1] w fun e w' => ∃ v0_ : Value, e = .returned (.tuple #[v0_, .int .i64 r2]) ∧ Kd.R (Kd.int .i64) 3 w' w.heap.size (fun _ => True) v0_ r1 ∧ Below w.heap.size w w' := by
 have hu24 := Tryd.underlying24
 have HR0_0 := m0 hr0_0
 have HC0_0 := m0 hc0_0
 clear hr0_0 hc0_0
 have HB := m0 (Below.refl w.heap.size w)
 have H : ((line_CheckNoise.f l0_0).bind fun bt301 => ((line_within.f a1 1 16).bind fun t303 => ((line_unless.f t303 2).bind fun t304 => ((line_first.f k (([bt301.2, t304] : List Int))).bind fun t308 => (if t308 = 0 then ((line_cases.f k l0_0 a1).bind fun bt309 => (if 0 ≤ a1 then (if (a1 : Int).toNat ≤ 35184372088832 then ((line_unless.f bt309.2 8).bind fun t314 => (some ((List.replicate (a1 : Int).toNat 0), t314))) else (none)) else (none))) else (some (([] : List Int), t308))))))) = some (r1, r2) := h
 clear h
 replace H := ob H
 obtain ⟨⟨t301, t302⟩, A30, H⟩ := H
 (try dsimp only at H)
 have A3 := m0 A30
 clear A30
 replace H := ob H
 obtain ⟨t303, A40, H⟩ := H
 (try dsimp only at H)
 have A4 := m0 A40
 clear A40
 replace H := ob H
 obtain ⟨t304, A50, H⟩ := H
 (try dsimp only at H)
 have A5 := m0 A50
 clear A50
 obtain ⟨y305, hy305⟩ : ∃ y_ : List Int, y_ = (([t302, t304] : List Int)) := ⟨_, rfl⟩
 replace H : ((line_first.f k y305).bind fun t308 => (if t308 = 0 then ((line_cases.f k l0_0 a1).bind fun bt309 => (if 0 ≤ a1 then (if (a1 : Int).toNat ≤ 35184372088832 then ((line_unless.f bt309.2 8).bind fun t314 => (some ((List.replicate (a1 : Int).toNat 0), t314))) else (none)) else (none))) else (some (([] : List Int), t308)))) = some (r1, r2) := by first | (rw [hy305]; with_reducible exact H) | (have H2_ := (Option.bind_some _ _).symm.trans H; rw [hy305]; with_reducible exact H2_) | (have H2_ := (Option.bind_some _ _).symm.trans H; with_reducible exact H2_) | with_reducible exact H | (rw [hy305]; exact H) | exact H
 have Ny305 := m0 hy305
 clear hy305
 replace H := ob H
 obtain ⟨t308, A60, H⟩ := H
 (try dsimp only at H)
 have A6 := m0 A60
 clear A60
 by_cases c7 : t308 = 0
 ·rw [if_pos c7] at H
  have c7b0 := beq_iff_eq.mpr c7
  have c7b1 := bne_eq_false_iff_eq.mpr c7
  clear c7
  replace H := ob H
  obtain ⟨⟨t309, t310⟩, A80, H⟩ := H
  (try dsimp only at H)
  have A8 := m0 A80
  clear A80
  by_cases c9 : 0 ≤ a1
  ·rw [if_pos c9] at H
   have c9b0 := eq_true c9
   have c9b1 := decide_eq_true c9
   clear c9
   by_cases c10 : (a1 : Int).toNat ≤ 35184372088832
   ·rw [if_pos c10] at H
    have c10b0 := eq_true c10
    have c10b1 := decide_eq_true c10
    clear c10
    obtain ⟨y311, hy311⟩ : ∃ y_ : List Int, y_ = (List.replicate (a1 : Int).toNat 0) := ⟨_, rfl⟩
    replace H : ((line_unless.f t310 8).bind fun t314 => (some (y311, t314))) = some (r1, r2) := by first | (rw [hy311]; with_reducible exact H) | (have H2_ := (Option.bind_some _ _).symm.trans H; rw [hy311]; with_reducible exact H2_) | (have H2_ := (Option.bind_some _ _).symm.trans H; with_reducible exact H2_) | with_reducible exact H | (rw [hy311]; exact H) | exact H
    have Ny311 := m0 hy311
    clear hy311
    replace H := ob H
    obtain ⟨t314, A110, H⟩ := H
    (try dsimp only at H)
    have A11 := m0 A110
    clear A110
    simp only [Option.some.injEq, Prod.mk.injEq] at H
    obtain ⟨rfl, rfl⟩ := H
    go_enter Tryd.func129, Tryd.ntmps129
    try go_wp2_with (first | ((with_reducible refine gate_dst (N := 2) rfl ?_); refine be 2 24 #[.slice A0_0 l0_0.length c0_0] ?_; intro gb300 hg w12 hbox hb; have BK300 := m0 hbox; have GW300 := m0 (bg (n := w.heap.size) hg); have GE300 := m0 (bg (n := w.heap.size) hg); replace HB := sb HB hb; clear hb hbox hg; obtain ⟨_, _⟩ := b1 BK300) | ((with_reducible refine gate_callee (f := 51) rfl ?_); refine gl (some 12) Tryd.func51 #[.agg #[.slice A0_0 l0_0.length c0_0]] ?_; (with_reducible refine (line_CheckNoise.calls _ _ l0_0 t301 t302 _ ?side1 ?side2 A3.out).mono ?_); (case side1 => exact cb HR0_0 HB); (case side2 => exact HC0_0.out); rintro e w14 ⟨rfl, hb⟩; refine ⟨_, rfl, ?_⟩; replace BK300 := bb BK300 hb; replace HB := sb HB hb; (try clear hb)) | ((with_reducible refine gate_callee (f := 105) rfl ?_); refine gl (some 17) Tryd.func105 #[.int .i64 a1, .int .i64 1, .int .i64 16] ?_; (with_reducible refine (line_within.calls a1 1 16 t303 _ A4.out).mono ?_); rintro e w' ⟨rfl, ⟨nd, rfl⟩⟩; refine ⟨_, rfl, ?_⟩) | ((with_reducible refine gate_callee (f := 93) rfl ?_); refine gl (some 18) Tryd.func93 #[.bool t303, .int .i64 2] ?_; (with_reducible refine (line_unless.calls t303 2 t304 _ A5.out).mono ?_); rintro e w' ⟨rfl, ⟨nd, rfl⟩⟩; refine ⟨_, rfl, ?_⟩) | ((with_reducible refine gate_dst (N := 19) rfl ?_); refine Kd.R_lit (Kd.int .i64) _ 31 ?hg (N := 19) ?hd (xs := ([t302, t304] : List Int)) (inner := [.int .i64 t302, .int .i64 t304]) (ok := fun _ => True) (okp := fun _ => True) ?hr ?hp (fun _ hk => hk) trivial (Below.refl _ _) (Nat.le_refl _) (by simp) ?_; (case hd => rfl); (case hg => rfl); (case hr => first | (go_simp; done) | (go_simp; rfl)); (case hp => exact (Reps.one (show Kd.M (Kd.int .i64) _ _ _ t302 [.int .i64 t302] from rfl) (Reps.one (show Kd.M (Kd.int .i64) _ _ _ t304 [.int .i64 t304] from rfl) (Reps.none _ _)))); intro v306 w15 ho16 hb hg_ hnew_; clear hg_ hnew_; (first | rw [← Ny305.out] at ho16 | (simp only [Int.reduceToNat] at ho16; rw [← Ny305.out] at ho16)); have HO307 := m0 (Kd.R_lower ho16 (below_size bz)); replace BK300 := bb BK300 hb; replace HB := sb HB hb; clear hb ho16; obtain ⟨Ao17, co17, eo17⟩ := Kd.R_slice HO307.out; subst eo17) | ((with_reducible refine gate_callee (f := 91) rfl ?_); refine gl (some 20) Tryd.func91 #[.slice Ao17 y305.length co17] ?_; (with_reducible refine (line_first.calls k _ _ y305 t308 _ ?side1 ?side2 A6.out).mono ?_); (case side1 => exact bc (Kd.R_reads' HO307.out).2.2); (case side2 => exact (Kd.R_reads' HO307.out).2.1); rintro e w' ⟨rfl, ⟨nd, rfl⟩⟩; refine ⟨_, rfl, ?_⟩; obtain ⟨_, _⟩ := b1 BK300) | ((with_reducible refine gate_callee (f := 121) rfl ?_); refine gl (some 27) Tryd.func121 #[.agg #[.slice A0_0 l0_0.length c0_0], .int .i64 a1] ?_; (with_reducible refine (line_cases.calls k _ _ l0_0 a1 t309 t310 _ ?side1 ?side2 A8.out).mono ?_); (case side1 => repeat (first | exact (Kd.C_below HR0_0.out bz) | (with_reducible refine Kd.C_alloc ?_ _) | (with_reducible refine Kd.C_drewN ?_ _) | (with_reducible refine Kd.C_drew ?_))); (case side2 => exact HC0_0.out); rintro e w19 ⟨rfl, hb⟩; refine ⟨_, rfl, ?_⟩; replace HO307 := rb HO307 hb; replace BK300 := bb BK300 hb; replace HB := sb HB hb; (try clear hb)))
    replace HO307 := m0 (Kd.R_drew HO307.out); replace BK300 := bd BK300; replace HB := sd HB
    refine start_ (n := 6) (S := fun w' => True) (ds := []) #[false, false, false, false, false, false] (by kernel_rfl) rfl rfl trivial (fun hHeld => ?_)
    generalize w19.drew = w20 at HO307 BK300 HB hHeld ⊢
    refine pure_ (i := 0) (N := some 30) (v := ?_) (a' := ?_) #[true, false, false, false, false, false] rfl rfl (by kernel_rfl) (fun _ _ _ h => h) (Or.inl ⟨by rfl, ?_⟩) ?_ ?_
    rotate_left
    ·intro w'
     go_simp
     with_reducible rfl
    rotate_left
    ·exact pz
    refine pure_ (i := 2) (N := some 32) (v := ?_) (a' := ?_) #[true, false, true, false, false, false] rfl rfl (by kernel_rfl) (fun _ _ _ h => h) (Or.inl ⟨by rfl, ?_⟩) ?_ ?_
    rotate_left
    ·intro w'
     go_simp
     with_reducible rfl
    rotate_left
    ·exact pz
    refine join_ (σ := Value) 2 #[true, true, true, true, false, false] (fun s_ => [(31, s_), (33, .int .i64 t314)]) (fun s_ w' => (Kd.R (Kd.int .i64) 31 w' w.heap.size (fun _ => True) (.slice Ao17 y305.length co17) y305) ∧ (Kd.R (Kd.int .i64) 3 w' w.heap.size (fun _ => True) s_ y311) ∧ (w'.heap[gb300]? = some (.cells #[.slice A0_0 l0_0.length c0_0] 24 (0, 0))) ∧ (Below w.heap.size w w')) ?_ ?_
    rotate_left
    ·intro hCont
     refine two_ (i := 1) (j := 3) (Ni := some 31) (Nj := some 33) #[true, true, true, false, false, false] #[true, false, true, true, false, false] rfl rfl rfl rfl (by kernel_rfl) (by decide) (by decide) (fun K hK => ?_) (fun K hK => ?_)
     ·skip
      refine Kd.R_make_step (Kd.int .i64) _ 3 (by rfl) (N := 31) rfl 22 _ _ rfl a1 rfl rfl Tryd.underlying22 (.int .i64 0) 8 info3 rfl (by decide) (by omega) 0 (ok := fun _ => True) (okp := fun _ => True) rfl (fun _ hk => hk) trivial (of_decide_eq_true (by first | (with_reducible assumption) | assumption)) (Nat.le_trans (Nat.mul_le_mul_right _ (of_decide_eq_true (by first | (with_reducible assumption) | assumption) : a1.toNat ≤ 35184372088832)) (by omega)) (Below.refl _ _) (Nat.le_refl _) ?_
      intro v312 w21 ho22 hb hg_ hnew_
      clear hg_ hnew_
      (first | rw [← Ny311.out] at ho22 | (simp only [Int.reduceToNat] at ho22; rw [← Ny311.out] at ho22))
      replace HO307 := rb HO307 hb; have HO313 := m0 (Kd.R_lower ho22 (below_size bz)); replace BK300 := bb BK300 hb; replace HB := sb HB hb
      clear hb ho22
      refine hK.out _ _ trivial (fun hHeld => ?_)
      clear hK K
      refine norm_ (a' := ?_) ?_ ?_
      rotate_left
      ·show Act.put _ (some 31) _ = _
       exact pz
      refine oneZ 3 (some 33) #[true, true, true, true, false, false] (by kernel_rfl) fun K hK => ?_
      refine goes_ Tryd.func93 (by kernel_rfl) rfl #[.bool t310, .int .i64 8] (by rfl) rfl rfl mz ?_
      with_reducible refine (line_unless.calls t310 8 t314 _ A11.out).mono ?_
      rintro e w' ⟨rfl, ⟨nd, rfl⟩⟩
      refine ⟨_, rfl, ?_⟩
      refine hK.out _ _ trivial (fun hHeld => ?_)
      clear hK K
      refine norm_ (a' := ?_) ?_ ?_
      rotate_left
      ·show Act.put _ (some 33) _ = _
       exact pz
      exact norm_ (by simp only [putAll, Act.put, List.setIfInBounds_toArray, List.set_cons_zero, List.set_cons_succ]) (hCont (v312) _ ⟨(br HO307.out), (br HO313.out), (bk BK300.out), bz⟩)
     ·skip
      refine goes_ Tryd.func93 (by kernel_rfl) rfl #[.bool t310, .int .i64 8] (by rfl) rfl rfl mz ?_
      with_reducible refine (line_unless.calls t310 8 t314 _ A11.out).mono ?_
      rintro e w' ⟨rfl, ⟨nd, rfl⟩⟩
      refine ⟨_, rfl, ?_⟩
      refine hK.out _ _ trivial (fun hHeld => ?_)
      clear hK K
      refine norm_ (a' := ?_) ?_ ?_
      rotate_left
      ·show Act.put _ (some 33) _ = _
       exact pz
      refine oneZ 1 (some 31) #[true, true, true, true, false, false] (by kernel_rfl) fun K hK => ?_
      refine Kd.R_make_step (Kd.int .i64) _ 3 (by rfl) (N := 31) rfl 22 _ _ rfl a1 rfl rfl Tryd.underlying22 (.int .i64 0) 8 info3 rfl (by decide) (by omega) 0 (ok := fun _ => True) (okp := fun _ => True) rfl (fun _ hk => hk) trivial (of_decide_eq_true (by first | (with_reducible assumption) | assumption)) (Nat.le_trans (Nat.mul_le_mul_right _ (of_decide_eq_true (by first | (with_reducible assumption) | assumption) : a1.toNat ≤ 35184372088832)) (by omega)) (Below.refl _ _) (Nat.le_refl _) ?_
      intro v312 w21 ho22 hb hg_ hnew_
      clear hg_ hnew_
      (first | rw [← Ny311.out] at ho22 | (simp only [Int.reduceToNat] at ho22; rw [← Ny311.out] at ho22))
      replace HO307 := rb HO307 hb; have HO313 := m0 (Kd.R_lower ho22 (below_size bz)); replace BK300 := bb BK300 hb; replace HB := sb HB hb
      clear hb ho22
      refine hK.out _ _ trivial (fun hHeld => ?_)
      clear hK K
      refine norm_ (a' := ?_) ?_ ?_
      rotate_left
      ·show Act.put _ (some 31) _ = _
       exact pz
      exact norm_ (by simp only [putAll, Act.put, List.setIfInBounds_toArray, List.set_cons_zero, List.set_cons_succ]) (hCont (v312) _ ⟨(br HO307.out), (br HO313.out), (bk BK300.out), bz⟩)
    rintro v312 w23 ⟨h0_, h1_, h2_, h3_⟩
    have n0_ : Aside0 (Kd.R (Kd.int .i64) 31 w23 w.heap.size (fun _ => True) (.slice Ao17 y305.length co17) y305) := ⟨h0_⟩
    have n1_ : Aside0 (Kd.R (Kd.int .i64) 3 w23 w.heap.size (fun _ => True) v312 y311) := ⟨h1_⟩
    have n2_ : Aside0 (w23.heap[gb300]? = some (.cells #[.slice A0_0 l0_0.length c0_0] 24 (0, 0))) := ⟨h2_⟩
    have n3_ : Aside0 (Below w.heap.size w w23) := ⟨h3_⟩
    clear HO307
    clear BK300
    clear HB
    clear h0_ h1_ h2_ h3_
    have HO307 := n0_
    have HO313 := n1_
    have BK300 := n2_
    have HB := n3_
    clear n0_ n1_ n2_ n3_
    have hHeld := trivial
    refine norm_ (a' := ?_) ?_ ?_
    rotate_left
    ·simp only [putAll, Act.put, List.setIfInBounds_toArray, List.set_cons_zero, List.set_cons_succ]
     rfl
    refine pure_ (i := 4) (N := some 4) (v := ?_) (a' := ?_) #[true, true, true, true, true, false] rfl rfl (by kernel_rfl) (fun _ _ _ h => h) (Or.inl ⟨by rfl, ?_⟩) ?_ ?_
    rotate_left
    ·intro w'
     go_simp
     with_reducible rfl
    rotate_left
    ·exact pz
    refine pure_ (i := 5) (N := some 5) (v := ?_) (a' := ?_) #[true, true, true, true, true, true] rfl rfl (by kernel_rfl) (fun _ _ _ h => h) (Or.inl ⟨by rfl, ?_⟩) ?_ ?_
    rotate_left
    ·intro w'
     go_simp
     with_reducible rfl
    rotate_left
    ·exact pz
    refine done_ (by kernel_rfl) ?_
    try go_wp2
    go_ret2
    exact ⟨_, by first | rfl | (simp [errW_none, errW_some] <;> rfl) | (simp [*, errW_none, errW_some] <;> rfl), by (with_reducible repeat (first | apply Kd.R_alloc | apply Kd.R_drewN | apply Kd.R_drew)); exact HO313.out, by repeat (first | (with_reducible first | exact HB.out | apply below_alloc | apply pw_below_drewN | apply below_drew1 | refine below_set ?_ GE300.out) | exact HB.out)⟩
   ·rw [if_neg c10] at H
    exact absurd H (by simp)
  ·rw [if_neg c9] at H
   exact absurd H (by simp)
 ·rw [if_neg c7] at H
  have c7b0 := beq_eq_false_iff_ne.mpr c7
  have c7b1 := bne_iff_ne.mpr c7
  simp only [Option.some.injEq, Prod.mk.injEq] at H
  obtain ⟨rfl, rfl⟩ := H
  go_enter Tryd.func129, Tryd.ntmps129
  go_wp2_with (first | ((with_reducible refine gate_dst (N := 2) rfl ?_); refine be 2 24 #[.slice A0_0 l0_0.length c0_0] ?_; intro gb300 hg w24 hbox hb; have BK300 := m0 hbox; have GW300 := m0 (bg (n := w.heap.size) hg); have GE300 := m0 (bg (n := w.heap.size) hg); replace HB := sb HB hb; clear hb hbox hg; obtain ⟨_, _⟩ := b1 BK300) | ((with_reducible refine gate_callee (f := 51) rfl ?_); refine gl (some 12) Tryd.func51 #[.agg #[.slice A0_0 l0_0.length c0_0]] ?_; (with_reducible refine (line_CheckNoise.calls _ _ l0_0 t301 t302 _ ?side1 ?side2 A3.out).mono ?_); (case side1 => exact cb HR0_0 HB); (case side2 => exact HC0_0.out); rintro e w26 ⟨rfl, hb⟩; refine ⟨_, rfl, ?_⟩; replace BK300 := bb BK300 hb; replace HB := sb HB hb; (try clear hb)) | ((with_reducible refine gate_callee (f := 105) rfl ?_); refine gl (some 17) Tryd.func105 #[.int .i64 a1, .int .i64 1, .int .i64 16] ?_; (with_reducible refine (line_within.calls a1 1 16 t303 _ A4.out).mono ?_); rintro e w' ⟨rfl, ⟨nd, rfl⟩⟩; refine ⟨_, rfl, ?_⟩) | ((with_reducible refine gate_callee (f := 93) rfl ?_); refine gl (some 18) Tryd.func93 #[.bool t303, .int .i64 2] ?_; (with_reducible refine (line_unless.calls t303 2 t304 _ A5.out).mono ?_); rintro e w' ⟨rfl, ⟨nd, rfl⟩⟩; refine ⟨_, rfl, ?_⟩) | ((with_reducible refine gate_dst (N := 19) rfl ?_); refine Kd.R_lit (Kd.int .i64) _ 31 ?hg (N := 19) ?hd (xs := ([t302, t304] : List Int)) (inner := [.int .i64 t302, .int .i64 t304]) (ok := fun _ => True) (okp := fun _ => True) ?hr ?hp (fun _ hk => hk) trivial (Below.refl _ _) (Nat.le_refl _) (by simp) ?_; (case hd => rfl); (case hg => rfl); (case hr => first | (go_simp; done) | (go_simp; rfl)); (case hp => exact (Reps.one (show Kd.M (Kd.int .i64) _ _ _ t302 [.int .i64 t302] from rfl) (Reps.one (show Kd.M (Kd.int .i64) _ _ _ t304 [.int .i64 t304] from rfl) (Reps.none _ _)))); intro v306 w27 ho28 hb hg_ hnew_; clear hg_ hnew_; (first | rw [← Ny305.out] at ho28 | (simp only [Int.reduceToNat] at ho28; rw [← Ny305.out] at ho28)); have HO307 := m0 (Kd.R_lower ho28 (below_size bz)); replace BK300 := bb BK300 hb; replace HB := sb HB hb; clear hb ho28; obtain ⟨Ao29, co29, eo29⟩ := Kd.R_slice HO307.out; subst eo29) | ((with_reducible refine gate_callee (f := 91) rfl ?_); refine gl (some 20) Tryd.func91 #[.slice Ao29 y305.length co29] ?_; (with_reducible refine (line_first.calls k _ _ y305 t308 _ ?side1 ?side2 A6.out).mono ?_); (case side1 => exact bc (Kd.R_reads' HO307.out).2.2); (case side2 => exact (Kd.R_reads' HO307.out).2.1); rintro e w' ⟨rfl, ⟨nd, rfl⟩⟩; refine ⟨_, rfl, ?_⟩))
  go_ret2
  exact ⟨_, by first | rfl | (simp [errW_none, errW_some] <;> rfl) | (simp [*, errW_none, errW_some] <;> rfl), by first | exact Kd.R_nil _ _ _ _ _ | exact Kd.N_nil _ _ _ _ _ | exact Kd.V_nil _ _ _ _ _ | exact Kd.Q_nil _ _ _ _ _ | exact Kd.S_nil _ _ _ _ _, by repeat (first | (with_reducible first | exact HB.out | apply below_alloc | apply pw_below_drewN | apply below_drew1 | refine below_set ?_ GE300.out) | exact HB.out)⟩
end
section
def line_FalseRate.f (k : Nat) (l0_0 : List Int) (a1 : Int) (a2 : Int) : Option (Int × Int × Int) := (line_openNoise.f k l0_0 a1).bind fun bt317 => ((line_thresholdErr.f a2).bind fun t321 => ((line_first.f k (([bt317.2, t321] : List Int))).bind fun t325 => (if t325 = 0 then ((line_rate.f k bt317.1 l0_0 a2).bind fun bt326 => (some (bt326.1, bt326.2, 0))) else (some (0, 0, t325)))))
theorem line_FalseRate.mono : ∀ a0 a1 a2 k, LeO (line_FalseRate.f k a0 a1 a2) (line_FalseRate.f (k + 1) a0 a1 a2) := by
 intro a0 a1 a2 k
 unfold line_FalseRate.f
 repeat' first
   | (with_reducible exact line_first.mono _ _)
   | (with_reducible exact line_openNoise.mono _ _ _)
   | (with_reducible exact line_rate.mono _ _ _ _)
   | (with_reducible exact LeO.refl _)
   | (with_reducible exact LeO.none _)
   | (with_reducible refine LeO.ite ?_ ?_)
   | (with_reducible refine LeO.bind ?_ (fun _ => ?_))
   | exact line_first.mono _ _
   | exact line_openNoise.mono _ _ _
   | exact line_rate.mono _ _ _ _
   | exact LeO.none _
   | refine LeO.ite ?_ ?_
   | refine LeO.bind ?_ (fun _ => ?_)
theorem line_FalseRate.calls (k : Nat) (A0_0 : Option Addr) (c0_0 : Nat) (l0_0 : List Int) (a1 : Int) (a2 : Int) (r1 : Int) (r2 : Int) (r3 : Int) (w : World) (hr0_0 : Kd.C (Kd.int .i64) w A0_0 l0_0.length l0_0) (hc0_0 : l0_0.length ≤ c0_0) (h : line_FalseRate.f k l0_0 a1 a2 = some (r1, r2, r3)) :
  Calls Tryd.prog 83 #[.agg #[.slice A0_0 l0_0.length c0_0], .int .i64 a1, .int .i64 a2] w fun e w' => e = .returned (.tuple #[.agg #[.int .i64 r1, .int .i64 r2], .int .i64 r3]) ∧ Below w.heap.size w w' := by
 have hu24 := Tryd.underlying24
 have hu26 := Tryd.underlying26
 have HR0_0 := m0 hr0_0
 have HC0_0 := m0 hc0_0
 clear hr0_0 hc0_0
 have HB := m0 (Below.refl w.heap.size w)
 have H : ((line_openNoise.f k l0_0 a1).bind fun bt317 => ((line_thresholdErr.f a2).bind fun t321 => ((line_first.f k (([bt317.2, t321] : List Int))).bind fun t325 => (if t325 = 0 then ((line_rate.f k bt317.1 l0_0 a2).bind fun bt326 => (some (bt326.1, bt326.2, 0))) else (some (0, 0, t325)))))) = some (r1, r2, r3) := h
 clear h
 replace H := ob H
 obtain ⟨⟨t317, t320⟩, A40, H⟩ := H
 (try dsimp only at H)
 have A4 := m0 A40
 clear A40
 replace H := ob H
 obtain ⟨t321, A50, H⟩ := H
 (try dsimp only at H)
 have A5 := m0 A50
 clear A50
 obtain ⟨y322, hy322⟩ : ∃ y_ : List Int, y_ = (([t320, t321] : List Int)) := ⟨_, rfl⟩
 replace H : ((line_first.f k y322).bind fun t325 => (if t325 = 0 then ((line_rate.f k t317 l0_0 a2).bind fun bt326 => (some (bt326.1, bt326.2, 0))) else (some (0, 0, t325)))) = some (r1, r2, r3) := by first | (rw [hy322]; with_reducible exact H) | (have H2_ := (Option.bind_some _ _).symm.trans H; rw [hy322]; with_reducible exact H2_) | (have H2_ := (Option.bind_some _ _).symm.trans H; with_reducible exact H2_) | with_reducible exact H | (rw [hy322]; exact H) | exact H
 have Ny322 := m0 hy322
 clear hy322
 replace H := ob H
 obtain ⟨t325, A60, H⟩ := H
 (try dsimp only at H)
 have A6 := m0 A60
 clear A60
 by_cases c7 : t325 = 0
 ·rw [if_pos c7] at H
  have c7b0 := beq_iff_eq.mpr c7
  have c7b1 := bne_eq_false_iff_eq.mpr c7
  clear c7
  replace H := ob H
  obtain ⟨⟨t326, t327⟩, A80, H⟩ := H
  (try dsimp only at H)
  have A8 := m0 A80
  clear A80
  simp only [Option.some.injEq, Prod.mk.injEq] at H
  obtain ⟨rfl, rfl, rfl⟩ := H
  go_enter Tryd.func83, Tryd.ntmps83
  go_wp2_with (first | ((with_reducible refine gate_dst (N := 3) rfl ?_); refine be 3 24 #[.slice A0_0 l0_0.length c0_0] ?_; intro gb315 hg w9 hbox hb; have BK315 := m0 hbox; have GW315 := m0 (bg (n := w.heap.size) hg); have GE315 := m0 (bg (n := w.heap.size) hg); replace HB := sb HB hb; clear hb hbox hg) | ((with_reducible refine gate_dst (N := 6) rfl ?_); refine be 6 26 #[.int .i64 0, .int .i64 0] ?_; intro gb316 hg w10 hbox hb; have BK316 := m0 hbox; have GW316 := m0 (bg (n := w.heap.size) hg); have GE316 := m0 (bg (n := w.heap.size) hg); replace HB := sb HB hb; have NB315_316 := nl BK315 hg; have NB316_315 := ng (nl BK315 hg); replace BK315 := bb BK315 hb; clear hb hbox hg; have hnb11 := NB315_316.out; have hnc11 := NB316_315.out; obtain ⟨_, _⟩ := b1 BK315) | ((with_reducible refine gate_callee (f := 129) rfl ?_); refine gl (some 13) Tryd.func129 #[.agg #[.slice A0_0 l0_0.length c0_0], .int .i64 a1] ?_; (with_reducible refine (line_openNoise.calls k _ _ l0_0 a1 t317 t320 _ ?side1 ?side2 A4.out).mono ?_); (case side1 => exact cb HR0_0 HB); (case side2 => exact HC0_0.out); rintro e w13 ⟨v318, rfl, ho0, hb⟩; refine ⟨_, rfl, ?_⟩; have HO319 := m0 (Kd.R_lower ho0 (below_size bz)); replace BK315 := bb BK315 hb; replace BK316 := bb BK316 hb; replace HB := sb HB hb; (try clear hb); (try clear ho0)) | ((with_reducible refine gate_callee (f := 100) rfl ?_); refine gl (some 18) Tryd.func100 #[.int .i64 a2] ?_; (with_reducible refine (line_thresholdErr.calls a2 t321 _ A5.out).mono ?_); rintro e w' ⟨rfl, ⟨nd, rfl⟩⟩; refine ⟨_, rfl, ?_⟩; (try (rw [drewN_self w13]; generalize hq_ : World.drewN w13 _ = w13; replace HO319 := gr HO319 hq_; replace BK315 := gd BK315 hq_; replace BK316 := gd BK316 hq_; replace HB := gs HB hq_; clear hq_))) | ((with_reducible refine gate_dst (N := 19) rfl ?_); refine Kd.R_lit (Kd.int .i64) _ 31 ?hg (N := 19) ?hd (xs := ([t320, t321] : List Int)) (inner := [.int .i64 t320, .int .i64 t321]) (ok := fun _ => True) (okp := fun _ => True) ?hr ?hp (fun _ hk => hk) trivial (Below.refl _ _) (Nat.le_refl _) (by simp) ?_; (case hd => rfl); (case hg => rfl); (case hr => first | (go_simp; done) | (go_simp; rfl)); (case hp => exact (Reps.one (show Kd.M (Kd.int .i64) _ _ _ t320 [.int .i64 t320] from rfl) (Reps.one (show Kd.M (Kd.int .i64) _ _ _ t321 [.int .i64 t321] from rfl) (Reps.none _ _)))); intro v323 w14 ho15 hb hg_ hnew_; clear hg_ hnew_; (first | rw [← Ny322.out] at ho15 | (simp only [Int.reduceToNat] at ho15; rw [← Ny322.out] at ho15)); replace HO319 := rb HO319 hb; have HO324 := m0 (Kd.R_lower ho15 (below_size bz)); replace BK315 := bb BK315 hb; replace BK316 := bb BK316 hb; replace HB := sb HB hb; clear hb ho15; obtain ⟨Ao16, co16, eo16⟩ := Kd.R_slice HO324.out; subst eo16) | ((with_reducible refine gate_callee (f := 91) rfl ?_); refine gl (some 20) Tryd.func91 #[.slice Ao16 y322.length co16] ?_; (with_reducible refine (line_first.calls k _ _ y322 t325 _ ?side1 ?side2 A6.out).mono ?_); (case side1 => exact bc (Kd.R_reads' HO324.out).2.2); (case side2 => exact (Kd.R_reads' HO324.out).2.1); rintro e w' ⟨rfl, ⟨nd, rfl⟩⟩; refine ⟨_, rfl, ?_⟩; (try (rw [drewN_self w14]; generalize hq_ : World.drewN w14 _ = w14; replace HO319 := gr HO319 hq_; replace HO324 := gr HO324 hq_; replace BK315 := gd BK315 hq_; replace BK316 := gd BK316 hq_; replace HB := gs HB hq_; clear hq_)); obtain ⟨_, _⟩ := b1 BK315; obtain ⟨Ao18, co18, eo18⟩ := Kd.R_slice HO319.out; subst eo18) | ((with_reducible refine gate_callee (f := 101) rfl ?_); refine gl (some 28) Tryd.func101 #[.slice Ao18 t317.length co18, .agg #[.slice A0_0 l0_0.length c0_0], .int .i64 a2] ?_; (with_reducible refine (line_rate.calls k _ _ t317 _ _ l0_0 a2 t326 t327 _ ?side1 ?side2 ?side3 ?side4 A8.out).mono ?_); (case side1 => exact bc (Kd.R_reads' HO319.out).2.2); (case side2 => exact (Kd.R_reads' HO319.out).2.1); (case side3 => exact cb HR0_0 HB); (case side4 => exact HC0_0.out); rintro e w19 ⟨rfl, hb⟩; refine ⟨_, rfl, ?_⟩; replace HO319 := rb HO319 hb; replace HO324 := rb HO324 hb; replace BK315 := bb BK315 hb; replace BK316 := bb BK316 hb; replace HB := sb HB hb; (try clear hb); obtain ⟨_, _, _, _⟩ := b2 BK316))
  refine bodyPost_ret (results_ct rfl _ _ gb316 26 #[.int .i64 t326, .int .i64 t327] (0, 0) _ rfl (bq BK316.out) Tryd.underlying26 rfl (by kernel_rfl)) rfl ?_
  exact ez
 ·rw [if_neg c7] at H
  have c7b0 := beq_eq_false_iff_ne.mpr c7
  have c7b1 := bne_iff_ne.mpr c7
  simp only [Option.some.injEq, Prod.mk.injEq] at H
  obtain ⟨rfl, rfl, rfl⟩ := H
  go_enter Tryd.func83, Tryd.ntmps83
  go_wp2_with (first | ((with_reducible refine gate_dst (N := 3) rfl ?_); refine be 3 24 #[.slice A0_0 l0_0.length c0_0] ?_; intro gb315 hg w21 hbox hb; have BK315 := m0 hbox; have GW315 := m0 (bg (n := w.heap.size) hg); have GE315 := m0 (bg (n := w.heap.size) hg); replace HB := sb HB hb; clear hb hbox hg) | ((with_reducible refine gate_dst (N := 6) rfl ?_); refine be 6 26 #[.int .i64 0, .int .i64 0] ?_; intro gb316 hg w22 hbox hb; have BK316 := m0 hbox; have GW316 := m0 (bg (n := w.heap.size) hg); have GE316 := m0 (bg (n := w.heap.size) hg); replace HB := sb HB hb; have NB315_316 := nl BK315 hg; have NB316_315 := ng (nl BK315 hg); replace BK315 := bb BK315 hb; clear hb hbox hg; have hnb23 := NB315_316.out; have hnc23 := NB316_315.out; obtain ⟨_, _⟩ := b1 BK315) | ((with_reducible refine gate_callee (f := 129) rfl ?_); refine gl (some 13) Tryd.func129 #[.agg #[.slice A0_0 l0_0.length c0_0], .int .i64 a1] ?_; (with_reducible refine (line_openNoise.calls k _ _ l0_0 a1 t317 t320 _ ?side1 ?side2 A4.out).mono ?_); (case side1 => exact cb HR0_0 HB); (case side2 => exact HC0_0.out); rintro e w25 ⟨v318, rfl, ho0, hb⟩; refine ⟨_, rfl, ?_⟩; have HO319 := m0 (Kd.R_lower ho0 (below_size bz)); replace BK315 := bb BK315 hb; replace BK316 := bb BK316 hb; replace HB := sb HB hb; (try clear hb); (try clear ho0)) | ((with_reducible refine gate_callee (f := 100) rfl ?_); refine gl (some 18) Tryd.func100 #[.int .i64 a2] ?_; (with_reducible refine (line_thresholdErr.calls a2 t321 _ A5.out).mono ?_); rintro e w' ⟨rfl, ⟨nd, rfl⟩⟩; refine ⟨_, rfl, ?_⟩; (try (rw [drewN_self w25]; generalize hq_ : World.drewN w25 _ = w25; replace HO319 := gr HO319 hq_; replace BK315 := gd BK315 hq_; replace BK316 := gd BK316 hq_; replace HB := gs HB hq_; clear hq_))) | ((with_reducible refine gate_dst (N := 19) rfl ?_); refine Kd.R_lit (Kd.int .i64) _ 31 ?hg (N := 19) ?hd (xs := ([t320, t321] : List Int)) (inner := [.int .i64 t320, .int .i64 t321]) (ok := fun _ => True) (okp := fun _ => True) ?hr ?hp (fun _ hk => hk) trivial (Below.refl _ _) (Nat.le_refl _) (by simp) ?_; (case hd => rfl); (case hg => rfl); (case hr => first | (go_simp; done) | (go_simp; rfl)); (case hp => exact (Reps.one (show Kd.M (Kd.int .i64) _ _ _ t320 [.int .i64 t320] from rfl) (Reps.one (show Kd.M (Kd.int .i64) _ _ _ t321 [.int .i64 t321] from rfl) (Reps.none _ _)))); intro v323 w26 ho27 hb hg_ hnew_; clear hg_ hnew_; (first | rw [← Ny322.out] at ho27 | (simp only [Int.reduceToNat] at ho27; rw [← Ny322.out] at ho27)); replace HO319 := rb HO319 hb; have HO324 := m0 (Kd.R_lower ho27 (below_size bz)); replace BK315 := bb BK315 hb; replace BK316 := bb BK316 hb; replace HB := sb HB hb; clear hb ho27; obtain ⟨Ao28, co28, eo28⟩ := Kd.R_slice HO324.out; subst eo28) | ((with_reducible refine gate_callee (f := 91) rfl ?_); refine gl (some 20) Tryd.func91 #[.slice Ao28 y322.length co28] ?_; (with_reducible refine (line_first.calls k _ _ y322 t325 _ ?side1 ?side2 A6.out).mono ?_); (case side1 => exact bc (Kd.R_reads' HO324.out).2.2); (case side2 => exact (Kd.R_reads' HO324.out).2.1); rintro e w' ⟨rfl, ⟨nd, rfl⟩⟩; refine ⟨_, rfl, ?_⟩; (try (rw [drewN_self w26]; generalize hq_ : World.drewN w26 _ = w26; replace HO319 := gr HO319 hq_; replace HO324 := gr HO324 hq_; replace BK315 := gd BK315 hq_; replace BK316 := gd BK316 hq_; replace HB := gs HB hq_; clear hq_)); obtain ⟨_, _, _, _⟩ := b2 BK316))
  refine bodyPost_ret (results_ct rfl _ _ gb316 26 #[.int .i64 0, .int .i64 0] (0, 0) _ rfl (bq BK316.out) Tryd.underlying26 rfl (by kernel_rfl)) rfl ?_
  exact ez
end
section
def Lw_Noise.f  : Option (List Int) := some (([0, 1] : List Int))
theorem Lw_Noise.calls  (r : List Int) (w : World) (h : Lw_Noise.f  = some r) :
  Calls Tryd.prog 89 #[] w fun e w' => ∃ v0_ : Value, e = .returned (.agg #[v0_]) ∧ Kd.R (Kd.int .i64) 3 w' w.heap.size (fun _ => True) v0_ r ∧ Below w.heap.size w w' := by
 have hu24 := Tryd.underlying24
 have HB := m0 (Below.refl w.heap.size w)
 have H : (some (([0, 1] : List Int))) = some r := h
 clear h
 obtain ⟨y329, hy329⟩ : ∃ y_ : List Int, y_ = (([0, 1] : List Int)) := ⟨_, rfl⟩
 replace H : (some y329) = some r := by first | (rw [hy329]; with_reducible exact H) | (have H2_ := (Option.bind_some _ _).symm.trans H; rw [hy329]; with_reducible exact H2_) | (have H2_ := (Option.bind_some _ _).symm.trans H; with_reducible exact H2_) | with_reducible exact H | (rw [hy329]; exact H) | exact H
 have Ny329 := m0 hy329
 clear hy329
 obtain rfl := Option.some.inj H
 go_enter Tryd.func89, Tryd.ntmps89
 go_wp2_with (first | ((with_reducible refine gate_dst (N := 0) rfl ?_); refine be 0 24 #[.slice none 0 0] ?_; intro gb328 hg w1 hbox hb; have BK328 := m0 hbox; have GW328 := m0 (bg (n := w.heap.size) hg); have GE328 := m0 (bg (n := w.heap.size) hg); replace HB := sb HB hb; clear hb hbox hg) | ((with_reducible refine gate_dst (N := 1) rfl ?_); refine Kd.R_lit (Kd.int .i64) _ 3 ?hg (N := 1) ?hd (xs := ([0, 1] : List Int)) (inner := [.int .i64 0, .int .i64 1]) (ok := fun _ => True) (okp := fun _ => True) ?hr ?hp (fun _ hk => hk) trivial (Below.refl _ _) (Nat.le_refl _) (by simp) ?_; (case hd => rfl); (case hg => rfl); (case hr => first | (go_simp; done) | (go_simp; rfl)); (case hp => exact (Reps.one (show Kd.M (Kd.int .i64) _ _ _ 0 [.int .i64 0] from rfl) (Reps.one (show Kd.M (Kd.int .i64) _ _ _ 1 [.int .i64 1] from rfl) (Reps.none _ _)))); intro v330 w2 ho3 hb hg_ hnew_; clear hg_ hnew_; (first | rw [← Ny329.out] at ho3 | (simp only [Int.reduceToNat] at ho3; rw [← Ny329.out] at ho3)); have HO331 := m0 (Kd.R_lower ho3 (below_size bz)); replace BK328 := bb BK328 hb; replace HB := sb HB hb; clear hb ho3; obtain ⟨Ao4, co4, eo4⟩ := Kd.R_slice HO331.out; subst eo4; obtain ⟨_, _⟩ := b1 BK328))
 refine bodyPost_ret (results_cell_row rfl _ _ gb328 24 #[.slice Ao4 y329.length co4] (0, 0) _ rfl (bq BK328.out) Tryd.underlying24 rfl (by kernel_rfl)) rfl ?_
 exact ⟨_, by first | rfl | (simp [errW_none, errW_some] <;> rfl) | (simp [*, errW_none, errW_some] <;> rfl), by (with_reducible repeat (first | apply Kd.R_alloc | apply Kd.R_drewN | apply Kd.R_drew)); exact Kd.R_mono (Kd.R_far (p := ⟨gb328, 0, none⟩) (Kd.R_types HO331.out BK328.out (by decide)) (fun _ hk => hk.2) (.slice Ao4 y329.length co4)) (fun _ hk => trivial), by repeat (first | (with_reducible first | exact HB.out | apply below_alloc | apply pw_below_drewN | apply below_drew1 | refine below_set ?_ GE328.out) | exact HB.out)⟩
end
section
def Lw_Case.f  : Option (List Int × List Int × Int × Int) := (Lw_Noise.f).bind fun t336 => ((Bs_Whole.f 0).bind fun bt339 => (some ((([2, 2] : List Int)), t336, bt339.1, bt339.2)))
theorem Lw_Case.calls  (r1 : List Int) (r2 : List Int) (r3 : Int) (r4 : Int) (w : World) (h : Lw_Case.f  = some (r1, r2, r3, r4)) :
  Calls Tryd.prog 90 #[] w fun e w' => ∃ v0_ v1_ : Value, e = .returned (.agg #[v0_, v1_, .int .i64 r3, .int .i64 r4]) ∧ Kd.R (Kd.int .i64) 3 w' w.heap.size (fun k_ => some k_ ≠ (v1_ : Value).ownBlock) v0_ r1 ∧ Kd.R (Kd.int .i64) 3 w' w.heap.size (fun k_ => some k_ ≠ (v0_ : Value).ownBlock) v1_ r2 ∧ Below w.heap.size w w' := by
 have hu28 := Tryd.underlying28
 have HB := m0 (Below.refl w.heap.size w)
 have H : ((Lw_Noise.f).bind fun t336 => ((Bs_Whole.f 0).bind fun bt339 => (some ((([2, 2] : List Int)), t336, bt339.1, bt339.2)))) = some (r1, r2, r3, r4) := h
 clear h
 obtain ⟨y333, hy333⟩ : ∃ y_ : List Int, y_ = (([2, 2] : List Int)) := ⟨_, rfl⟩
 replace H : ((Lw_Noise.f).bind fun t336 => ((Bs_Whole.f 0).bind fun bt339 => (some (y333, t336, bt339.1, bt339.2)))) = some (r1, r2, r3, r4) := by first | (rw [hy333]; with_reducible exact H) | (have H2_ := (Option.bind_some _ _).symm.trans H; rw [hy333]; with_reducible exact H2_) | (have H2_ := (Option.bind_some _ _).symm.trans H; with_reducible exact H2_) | with_reducible exact H | (rw [hy333]; exact H) | exact H
 have Ny333 := m0 hy333
 clear hy333
 replace H := ob H
 obtain ⟨t336, A10, H⟩ := H
 (try dsimp only at H)
 have A1 := m0 A10
 clear A10
 replace H := ob H
 obtain ⟨⟨t339, t340⟩, A20, H⟩ := H
 (try dsimp only at H)
 have A2 := m0 A20
 clear A20
 simp only [Option.some.injEq, Prod.mk.injEq] at H
 obtain ⟨rfl, rfl, rfl, rfl⟩ := H
 go_enter Tryd.func90, Tryd.ntmps90
 go_wp2_with (first | ((with_reducible refine gate_dst (N := 0) rfl ?_); refine be 0 28 #[.slice none 0 0, .slice none 0 0, .int .i64 0, .int .i64 0] ?_; intro gb332 hg w3 hbox hb; have BK332 := m0 hbox; have GW332 := m0 (bg (n := w.heap.size) hg); have GE332 := m0 (bg (n := w.heap.size) hg); replace HB := sb HB hb; clear hb hbox hg) | ((with_reducible refine gate_dst (N := 1) rfl ?_); refine Kd.R_lit (Kd.int .i64) _ 3 ?hg (N := 1) ?hd (xs := ([2, 2] : List Int)) (inner := [.int .i64 2, .int .i64 2]) (ok := fun _ => True) (okp := fun _ => True) ?hr ?hp (fun _ hk => hk) trivial (Below.refl _ _) (Nat.le_refl _) (by simp) ?_; (case hd => rfl); (case hg => rfl); (case hr => first | (go_simp; done) | (go_simp; rfl)); (case hp => exact (Reps.one (show Kd.M (Kd.int .i64) _ _ _ 2 [.int .i64 2] from rfl) (Reps.one (show Kd.M (Kd.int .i64) _ _ _ 2 [.int .i64 2] from rfl) (Reps.none _ _)))); intro v334 w4 ho5 hb hg_ hnew_; clear hg_ hnew_; (first | rw [← Ny333.out] at ho5 | (simp only [Int.reduceToNat] at ho5; rw [← Ny333.out] at ho5)); have HO335 := m0 (Kd.R_lower ho5 (below_size bz)); replace BK332 := bb BK332 hb; replace HB := sb HB hb; clear hb ho5) | ((with_reducible refine gate_callee (f := 89) rfl ?_); refine gl (some 2) Tryd.func89 #[] ?_; (with_reducible refine (Lw_Noise.calls  t336 _ A1.out).mono ?_); rintro e w6 ⟨v337, rfl, ho0, hb⟩; refine ⟨_, rfl, ?_⟩; have HO338 := m0 (Kd.R_lower (Kd.R_new' ho0 (Kd.R_lt (br HO335.out))) (below_size bz)); replace HO335 := m0 (Kd.R_elder' (br HO335.out) (Kd.R_base ho0) hb); replace BK332 := bb BK332 hb; replace HB := sb HB hb; (try clear hb); (try clear ho0)) | ((with_reducible refine gate_callee (f := 38) rfl ?_); refine gl (some 3) Tryd.func38 #[.int .i64 0] ?_; (with_reducible refine (Bs_Whole.calls 0 t339 t340 _ A2.out).mono ?_); rintro e w7 ⟨rfl, hb⟩; refine ⟨_, rfl, ?_⟩; replace HO335 := rb HO335 hb; replace HO338 := rb HO338 hb; replace BK332 := bb BK332 hb; replace HB := sb HB hb; (try clear hb); obtain ⟨Ao8, co8, eo8⟩ := Kd.R_slice HO338.out; subst eo8; obtain ⟨Ao9, co9, eo9⟩ := Kd.R_slice HO335.out; subst eo9; obtain ⟨_, _, _, _, _, _, _, _⟩ := b4 BK332))
 refine bodyPost_ret (results_cell_row rfl _ _ gb332 28 #[.slice Ao9 y333.length co9, .slice Ao8 t336.length co8, .int .i64 t339, .int .i64 t340] (0, 0) _ rfl (bq BK332.out) Tryd.underlying28 rfl (by kernel_rfl)) rfl ?_
 exact ⟨_, _, by first | rfl | (simp [errW_none, errW_some] <;> rfl) | (simp [*, errW_none, errW_some] <;> rfl), by (with_reducible repeat (first | apply Kd.R_alloc | apply Kd.R_drewN | apply Kd.R_drew)); exact Kd.R_mono (Kd.R_far (p := ⟨gb332, 3, none⟩) (Kd.R_far (p := ⟨gb332, 2, none⟩) (Kd.R_far (p := ⟨gb332, 1, none⟩) (Kd.R_far (p := ⟨gb332, 0, none⟩) (Kd.R_types HO335.out BK332.out (by decide)) (fun _ hk => hk.2) (.slice Ao9 y333.length co9)) (fun _ hk => hk.2) (.slice Ao8 t336.length co8)) (fun _ hk => hk.2) (.int .i64 t339)) (fun _ hk => hk.2) (.int .i64 t340)) (fun _ hk => hk.1.2), by (with_reducible repeat (first | apply Kd.R_alloc | apply Kd.R_drewN | apply Kd.R_drew)); exact Kd.R_mono (Kd.R_far (p := ⟨gb332, 3, none⟩) (Kd.R_far (p := ⟨gb332, 2, none⟩) (Kd.R_far (p := ⟨gb332, 1, none⟩) (Kd.R_far (p := ⟨gb332, 0, none⟩) (Kd.R_types HO338.out BK332.out (by decide)) (fun _ hk => hk.2) (.slice Ao9 y333.length co9)) (fun _ hk => hk.2) (.slice Ao8 t336.length co8)) (fun _ hk => hk.2) (.int .i64 t339)) (fun _ hk => hk.2) (.int .i64 t340)) (fun _ hk => hk.1.2), by repeat (first | (with_reducible first | exact HB.out | apply below_alloc | apply pw_below_drewN | apply below_drew1 | refine below_set ?_ GE332.out) | exact HB.out)⟩
end
end Go.Proofs.YtjnkphmcndaijaaDoor.A
