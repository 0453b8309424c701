/- Walks of the program's functions (printed, made shorter), each with what it computes. -/
import Derived.Test.YtjnkphmcndaijaaDoorSpd04
import Derived.Test.YtjnkphmcndaijaaDoorSpd03
import Derived.Test.YtjnkphmcndaijaaDoorSpd10
import Derived.Test.YtjnkphmcndaijaaDoorSpd11
import Derived.Test.YtjnkphmcndaijaaDoorSpd09
namespace Go.Proofs.YtjnkphmcndaijaaDoor.A
set_option maxHeartbeats 8000000
set_option maxRecDepth 100000
open Go.RowKit Go.Proofs.YtjnkphmcndaijaaDoorW.PrintWords Go.Proofs.YtjnkphmcndaijaaDoorW.PrintLast Go.Proofs.YtjnkphmcndaijaaDoorW.PrintMore
attribute [local go_sem] max2_int min2_int max_two min_two max_three min_three max_four min_four
set_option linter.unusedVariables false
set_option linter.unusedSimpArgs false
section
def L_openNoise.f (k : Nat) (l0_0 : List Int) (a1 : Int) : Option (List Int × Int) := (L_CheckNoise.f l0_0).bind fun bt301 => ((L_within.f a1 1 16).bind fun t303 => ((L_unless.f t303 2).bind fun t304 => ((L_first.f k (([bt301.2, t304] : List Int))).bind fun t308 => (if t308 = 0 then ((L_cases.f k l0_0 a1).bind fun bt309 => (if 0 ≤ a1 then (if (a1 : Int).toNat ≤ 35184372088832 then ((L_unless.f bt309.2 8).bind fun t314 => (some ((List.replicate (a1 : Int).toNat 0), t314))) else (none)) else (none))) else (none)))))
theorem L_openNoise.mono : ∀ a0 a1 k, LeO (L_openNoise.f k a0 a1) (L_openNoise.f (k + 1) a0 a1) := by
 intro a0 a1 k
 unfold L_openNoise.f
 repeat' with_reducible first
  | exact L_cases.mono ..
  | exact L_first.mono ..
  | exact LeO.refl ..
  | exact LeO.none ..
  | refine LeO.ite ?_ ?_
  | refine LeO.bind ?_ (fun _ => ?_)
theorem L_openNoise.calls (k : Nat) (A0_0 : Option Addr) (c0_0 : Nat) (l0_0 : List Int) (a1 : Int) (r1 : List Int) (r2 : Int) (w : World) (hr0_0 : Kd.C (Kd.int .i64) w A0_0 l0_0.length l0_0) (hc0_0 : l0_0.length ≤ c0_0) (h : L_openNoise.f k l0_0 a1 = some (r1, r2)) :
  Calls Tryd.prog 129 #[.agg #[.slice A0_0 l0_0.length c0_0], .int .i64 a1] w fun e w' => ∃ v0_ : Value, e = .returned (.tuple #[v0_, .int .i64 r2]) ∧ Kd.R (Kd.int .i64) 3 w' w.heap.size (fun _ => True) v0_ r1 ∧ Below w.heap.size w w' := by
 have hu24 := Tryd.underlying24
 have HR0_0 := m0 hr0_0
 have HC0_0 := m0 hc0_0
 clear hr0_0 hc0_0
 have HB := m0 (Below.refl w.heap.size w)
 have H : ((L_CheckNoise.f l0_0).bind fun bt301 => ((L_within.f a1 1 16).bind fun t303 => ((L_unless.f t303 2).bind fun t304 => ((L_first.f k (([bt301.2, t304] : List Int))).bind fun t308 => (if t308 = 0 then ((L_cases.f k l0_0 a1).bind fun bt309 => (if 0 ≤ a1 then (if (a1 : Int).toNat ≤ 35184372088832 then ((L_unless.f bt309.2 8).bind fun t314 => (some ((List.replicate (a1 : Int).toNat 0), t314))) else (none)) else (none))) else (none)))))) = some (r1, r2) := h
 clear h
 replace H := ob H
 obtain ⟨⟨t301, t302⟩, A3, H⟩ := H
 (try dsimp only at H)
 replace A3 := m0 A3
 replace H := ob H
 obtain ⟨t303, A4, H⟩ := H
 (try dsimp only at H)
 replace A4 := m0 A4
 replace H := ob H
 obtain ⟨t304, A5, H⟩ := H
 (try dsimp only at H)
 replace A5 := m0 A5
 obtain ⟨y305, hy305⟩ : ∃ y_ : List Int, y_ = (([t302, t304] : List Int)) := ⟨_, rfl⟩
 replace H : ((L_first.f k y305).bind fun t308 => (if t308 = 0 then ((L_cases.f k l0_0 a1).bind fun bt309 => (if 0 ≤ a1 then (if (a1 : Int).toNat ≤ 35184372088832 then ((L_unless.f bt309.2 8).bind fun t314 => (some ((List.replicate (a1 : Int).toNat 0), t314))) else (none)) else (none))) else (none))) = some (r1, r2) := by first | (rw [hy305]; with_reducible exact H) | (have H2_ := (Option.bind_some _ _).symm.trans H; rw [hy305]; with_reducible exact H2_) | (have H2_ := (Option.bind_some _ _).symm.trans H; with_reducible exact H2_) | with_reducible exact H | (rw [hy305]; exact H) | exact H
 have Ny305 := m0 hy305
 clear hy305
 replace H := ob H
 obtain ⟨t308, A6, H⟩ := H
 (try dsimp only at H)
 replace A6 := m0 A6
 by_cases c7 : t308 = 0
 ·rw [if_pos c7] at H
  have c7b0 := beq_iff_eq.mpr c7
  have c7b1 := bne_eq_false_iff_eq.mpr c7
  clear c7
  replace H := ob H
  obtain ⟨⟨t309, t310⟩, A8, H⟩ := H
  (try dsimp only at H)
  replace A8 := m0 A8
  by_cases c9 : 0 ≤ a1
  ·rw [if_pos c9] at H
   have c9b0 := eq_true c9
   have c9b1 := decide_eq_true c9
   clear c9
   by_cases c10 : (a1 : Int).toNat ≤ 35184372088832
   ·rw [if_pos c10] at H
    have c10b0 := eq_true c10
    have c10b1 := decide_eq_true c10
    clear c10
    obtain ⟨y311, hy311⟩ : ∃ y_ : List Int, y_ = (List.replicate (a1 : Int).toNat 0) := ⟨_, rfl⟩
    replace H : ((L_unless.f t310 8).bind fun t314 => (some (y311, t314))) = some (r1, r2) := by first | (rw [hy311]; with_reducible exact H) | (have H2_ := (Option.bind_some _ _).symm.trans H; rw [hy311]; with_reducible exact H2_) | (have H2_ := (Option.bind_some _ _).symm.trans H; with_reducible exact H2_) | with_reducible exact H | (rw [hy311]; exact H) | exact H
    have Ny311 := m0 hy311
    clear hy311
    replace H := ob H
    obtain ⟨t314, A11, H⟩ := H
    (try dsimp only at H)
    replace A11 := m0 A11
    simp only [Option.some.injEq, Prod.mk.injEq] at H
    obtain ⟨rfl, rfl⟩ := H
    go_enter Tryd.func129, Tryd.ntmps129
    try go_wp2_with (first | ((with_reducible refine gate_dst (N := 2) rfl ?_); refine be 2 24 #[.slice A0_0 l0_0.length c0_0] ?_; intro gb300 hg w12 hbox hb; have BK300 := m0 hbox; have GE300 := gw w hg; replace HB := sb HB hb; clear hb hbox hg; obtain ⟨_, _⟩ := b1 BK300) | ((with_reducible refine gate_callee (f := 51) rfl ?_); refine gl (some 12) Tryd.func51 #[.agg #[.slice A0_0 l0_0.length c0_0]] ?_; (with_reducible refine (L_CheckNoise.calls _ _ l0_0 t301 t302 _ ?side1 ?side2 A3.out).mono ?_); (case side1 => exact cb HR0_0 HB); (case side2 => exact HC0_0.out); rintro e w14 ⟨rfl, hb⟩; refine ⟨_, rfl, ?_⟩; replace BK300 := bb BK300 hb; replace HB := sb HB hb; (try clear hb)) | ((with_reducible refine gate_callee (f := 105) rfl ?_); refine gl (some 17) Tryd.func105 #[.int .i64 a1, .int .i64 1, .int .i64 16] ?_; (with_reducible refine (L_within.calls a1 1 16 t303 _ A4.out).mono ?_); rintro e w' ⟨rfl, ⟨nd, rfl⟩⟩; refine ⟨_, rfl, ?_⟩) | ((with_reducible refine gate_callee (f := 93) rfl ?_); refine gl (some 18) Tryd.func93 #[.bool t303, .int .i64 2] ?_; (with_reducible refine (L_unless.calls t303 2 t304 _ A5.out).mono ?_); rintro e w' ⟨rfl, ⟨nd, rfl⟩⟩; refine ⟨_, rfl, ?_⟩) | ((with_reducible refine gate_dst (N := 19) rfl ?_); refine Kd.R_lit (Kd.int .i64) _ 31 ?hg (N := 19) ?hd (xs := ([t302, t304] : List Int)) (inner := [.int .i64 t302, .int .i64 t304]) (ok := fun _ => True) (okp := fun _ => True) ?hr ?hp (fun _ hk => hk) trivial (Below.refl _ _) (Nat.le_refl _) (by simp) ?_; (case hd => rfl); (case hg => rfl); (case hr => first | (go_simp; done) | (go_simp; rfl)); (case hp => exact (Reps.one (show Kd.M (Kd.int .i64) _ _ _ t302 [.int .i64 t302] from rfl) (Reps.one (show Kd.M (Kd.int .i64) _ _ _ t304 [.int .i64 t304] from rfl) (Reps.none _ _)))); intro v306 w15 ho16 hb hg_ hnew_; clear hg_ hnew_; (first | rw [← Ny305.out] at ho16 | (simp only [Int.reduceToNat] at ho16; rw [← Ny305.out] at ho16)); have HO307 := m0 (Kd.R_lower ho16 (below_size bz)); replace BK300 := bb BK300 hb; replace HB := sb HB hb; clear hb ho16; obtain ⟨Ao17, co17, eo17⟩ := Kd.R_slice HO307.out; subst eo17) | ((with_reducible refine gate_callee (f := 91) rfl ?_); refine gl (some 20) Tryd.func91 #[.slice Ao17 y305.length co17] ?_; (with_reducible refine (L_first.calls k _ _ y305 t308 _ ?side1 ?side2 A6.out).mono ?_); (case side1 => exact bc (Kd.R_reads' HO307.out).2.2); (case side2 => exact (Kd.R_reads' HO307.out).2.1); rintro e w' ⟨rfl, ⟨nd, rfl⟩⟩; refine ⟨_, rfl, ?_⟩; obtain ⟨_, _⟩ := b1 BK300) | ((with_reducible refine gate_callee (f := 121) rfl ?_); refine gl (some 27) Tryd.func121 #[.agg #[.slice A0_0 l0_0.length c0_0], .int .i64 a1] ?_; (with_reducible refine (L_cases.calls k _ _ l0_0 a1 t309 t310 _ ?side1 ?side2 A8.out).mono ?_); (case side1 => repeat (first | exact (Kd.C_below HR0_0.out bz) | (with_reducible refine Kd.C_alloc ?_ _) | (with_reducible refine Kd.C_drewN ?_ _) | (with_reducible refine Kd.C_drew ?_))); (case side2 => exact HC0_0.out); rintro e w19 ⟨rfl, hb⟩; refine ⟨_, rfl, ?_⟩; replace HO307 := rb HO307 hb; replace BK300 := bb BK300 hb; replace HB := sb HB hb; (try clear hb)))
    replace HO307 := m0 (Kd.R_drew HO307.out); replace BK300 := bd BK300; replace HB := sd HB
    refine start_ (n := 6) (S := fun w' => True) (ds := []) #[false, false, false, false, false, false] (by kernel_rfl) rfl rfl trivial (fun hH => ?_)
    generalize w19.drew = w20 at HO307 BK300 HB hH ⊢
    refine pure_ (i := 0) (N := some 30) (v := ?_) (a' := ?_) #[true, false, false, false, false, false] rfl rfl (by kernel_rfl) (fun _ _ _ h => h) (Or.inl ⟨by rfl, ?_⟩) ?_ ?_
    rotate_left
    ·intro w'
     go_simp
     with_reducible rfl
    rotate_left
    ·exact pz
    refine pure_ (i := 2) (N := some 32) (v := ?_) (a' := ?_) #[true, false, true, false, false, false] rfl rfl (by kernel_rfl) (fun _ _ _ h => h) (Or.inl ⟨by rfl, ?_⟩) ?_ ?_
    rotate_left
    ·intro w'
     go_simp
     with_reducible rfl
    rotate_left
    ·exact pz
    refine join_ (σ := Value) 2 #[true, true, true, true, false, false] (fun s_ => [(31, s_), (33, .int .i64 t314)]) (fun s_ w' => (Kd.R (Kd.int .i64) 31 w' w.heap.size (fun _ => True) (.slice Ao17 y305.length co17) y305) ∧ (Kd.R (Kd.int .i64) 3 w' w.heap.size (fun _ => True) s_ y311) ∧ (w'.heap[gb300]? = some (.cells #[.slice A0_0 l0_0.length c0_0] 24 (0, 0))) ∧ (Below w.heap.size w w')) ?_ ?_
    rotate_left
    ·intro hCont
     refine two_ (i := 1) (j := 3) (Ni := some 31) (Nj := some 33) #[true, true, true, false, false, false] #[true, false, true, true, false, false] rfl rfl rfl rfl (by kernel_rfl) (by decide) (by decide) (fun K hK => ?_) (fun K hK => ?_)
     ·skip
      refine Kd.R_make_step (Kd.int .i64) _ 3 (by rfl) (N := 31) rfl 22 _ _ rfl a1 rfl rfl Tryd.underlying22 (.int .i64 0) 8 info3 rfl (by decide) (by omega) 0 (ok := fun _ => True) (okp := fun _ => True) rfl (fun _ hk => hk) trivial (od) (Nat.le_trans (Nat.mul_le_mul_right _ (od : a1.toNat ≤ 35184372088832)) (by omega)) (Below.refl _ _) (Nat.le_refl _) ?_
      intro v312 w21 ho22 hb hg_ hnew_
      clear hg_ hnew_
      (first | rw [← Ny311.out] at ho22 | (simp only [Int.reduceToNat] at ho22; rw [← Ny311.out] at ho22))
      replace HO307 := rb HO307 hb; have HO313 := m0 (Kd.R_lower ho22 (below_size bz)); replace BK300 := bb BK300 hb; replace HB := sb HB hb
      clear hb ho22
      refine hK.out _ _ trivial (fun hH => ?_)
      clear hK K
      refine norm_ (a' := ?_) ?_ ?_
      rotate_left
      ·show Act.put _ (some 31) _ = _
       exact pz
      refine oneZ 3 (some 33) #[true, true, true, true, false, false] (by kernel_rfl) fun K hK => ?_
      refine gz Tryd.func93 #[.bool t310, .int .i64 8] ?_
      with_reducible refine (L_unless.calls t310 8 t314 _ A11.out).mono ?_
      rintro e w' ⟨rfl, ⟨nd, rfl⟩⟩
      refine ⟨_, rfl, ?_⟩
      refine hK.out _ _ trivial (fun hH => ?_)
      clear hK K
      refine norm_ (a' := ?_) ?_ ?_
      rotate_left
      ·show Act.put _ (some 33) _ = _
       exact pz
      exact norm_ (by simp only [putAll, Act.put, List.setIfInBounds_toArray, List.set_cons_zero, List.set_cons_succ]) (hCont (v312) _ ⟨(br HO307.out), (br HO313.out), (bk BK300.out), bz⟩)
     ·skip
      refine gz Tryd.func93 #[.bool t310, .int .i64 8] ?_
      with_reducible refine (L_unless.calls t310 8 t314 _ A11.out).mono ?_
      rintro e w' ⟨rfl, ⟨nd, rfl⟩⟩
      refine ⟨_, rfl, ?_⟩
      refine hK.out _ _ trivial (fun hH => ?_)
      clear hK K
      refine norm_ (a' := ?_) ?_ ?_
      rotate_left
      ·show Act.put _ (some 33) _ = _
       exact pz
      refine oneZ 1 (some 31) #[true, true, true, true, false, false] (by kernel_rfl) fun K hK => ?_
      refine Kd.R_make_step (Kd.int .i64) _ 3 (by rfl) (N := 31) rfl 22 _ _ rfl a1 rfl rfl Tryd.underlying22 (.int .i64 0) 8 info3 rfl (by decide) (by omega) 0 (ok := fun _ => True) (okp := fun _ => True) rfl (fun _ hk => hk) trivial (od) (Nat.le_trans (Nat.mul_le_mul_right _ (od : a1.toNat ≤ 35184372088832)) (by omega)) (Below.refl _ _) (Nat.le_refl _) ?_
      intro v312 w21 ho22 hb hg_ hnew_
      clear hg_ hnew_
      (first | rw [← Ny311.out] at ho22 | (simp only [Int.reduceToNat] at ho22; rw [← Ny311.out] at ho22))
      replace HO307 := rb HO307 hb; have HO313 := m0 (Kd.R_lower ho22 (below_size bz)); replace BK300 := bb BK300 hb; replace HB := sb HB hb
      clear hb ho22
      refine hK.out _ _ trivial (fun hH => ?_)
      clear hK K
      refine norm_ (a' := ?_) ?_ ?_
      rotate_left
      ·show Act.put _ (some 31) _ = _
       exact pz
      exact norm_ (by simp only [putAll, Act.put, List.setIfInBounds_toArray, List.set_cons_zero, List.set_cons_succ]) (hCont (v312) _ ⟨(br HO307.out), (br HO313.out), (bk BK300.out), bz⟩)
    rintro v312 w23 ⟨h0_, h1_, h2_, h3_⟩
    have n0_ : Aside0 (Kd.R (Kd.int .i64) 31 w23 w.heap.size (fun _ => True) (.slice Ao17 y305.length co17) y305) := ⟨h0_⟩
    have n1_ : Aside0 (Kd.R (Kd.int .i64) 3 w23 w.heap.size (fun _ => True) v312 y311) := ⟨h1_⟩
    have n2_ : Aside0 (w23.heap[gb300]? = some (.cells #[.slice A0_0 l0_0.length c0_0] 24 (0, 0))) := ⟨h2_⟩
    have n3_ : Aside0 (Below w.heap.size w w23) := ⟨h3_⟩
    clear HO307
    clear BK300
    clear HB
    clear h0_ h1_ h2_ h3_
    have HO307 := n0_
    have HO313 := n1_
    have BK300 := n2_
    have HB := n3_
    clear n0_ n1_ n2_ n3_
    have hH := trivial
    refine norm_ (a' := ?_) ?_ ?_
    rotate_left
    ·simp only [putAll, Act.put, List.setIfInBounds_toArray, List.set_cons_zero, List.set_cons_succ]
     rfl
    refine pure_ (i := 4) (N := some 4) (v := ?_) (a' := ?_) #[true, true, true, true, true, false] rfl rfl (by kernel_rfl) (fun _ _ _ h => h) (Or.inl ⟨by rfl, ?_⟩) ?_ ?_
    rotate_left
    ·intro w'
     go_simp
     with_reducible rfl
    rotate_left
    ·exact pz
    refine pure_ (i := 5) (N := some 5) (v := ?_) (a' := ?_) #[true, true, true, true, true, true] rfl rfl (by kernel_rfl) (fun _ _ _ h => h) (Or.inl ⟨by rfl, ?_⟩) ?_ ?_
    rotate_left
    ·intro w'
     go_simp
     with_reducible rfl
    rotate_left
    ·exact pz
    refine done_ (by kernel_rfl) ?_
    try go_wp2
    go_ret2
    exact ⟨_, by first | rfl | (simp [errW_none, errW_some] <;> rfl) | (simp [*, errW_none, errW_some] <;> rfl), by (with_reducible repeat (first | apply Kd.R_alloc | apply Kd.R_drewN | apply Kd.R_drew)); exact HO313.out, by repeat (first | (with_reducible first | exact HB.out | apply below_alloc | apply pw_below_drewN | apply below_drew1 | refine below_set ?_ GE300.out) | exact HB.out)⟩
   ·rw [if_neg c10] at H
    exact absurd H (by simp)
  ·rw [if_neg c9] at H
   exact absurd H (by simp)
 ·rw [if_neg c7] at H
  exact absurd H (by simp)
end
section
def L_FalseRate.f (k : Nat) (l0_0 : List Int) (a1 : Int) (a2 : Int) : Option (Int × Int × Int) := (L_openNoise.f k l0_0 a1).bind fun bt317 => ((L_thresholdErr.f a2).bind fun t321 => ((L_first.f k (([bt317.2, t321] : List Int))).bind fun t325 => (if t325 = 0 then ((L_rate.f k bt317.1 l0_0 a2).bind fun bt326 => (some (bt326.1, bt326.2, 0))) else (none))))
theorem L_FalseRate.mono : ∀ a0 a1 a2 k, LeO (L_FalseRate.f k a0 a1 a2) (L_FalseRate.f (k + 1) a0 a1 a2) := by
 intro a0 a1 a2 k
 unfold L_FalseRate.f
 repeat' with_reducible first
  | exact L_first.mono ..
  | exact L_openNoise.mono ..
  | exact L_rate.mono ..
  | exact LeO.refl ..
  | exact LeO.none ..
  | refine LeO.ite ?_ ?_
  | refine LeO.bind ?_ (fun _ => ?_)
theorem L_FalseRate.calls (k : Nat) (A0_0 : Option Addr) (c0_0 : Nat) (l0_0 : List Int) (a1 : Int) (a2 : Int) (r1 : Int) (r2 : Int) (r3 : Int) (w : World) (hr0_0 : Kd.C (Kd.int .i64) w A0_0 l0_0.length l0_0) (hc0_0 : l0_0.length ≤ c0_0) (h : L_FalseRate.f k l0_0 a1 a2 = some (r1, r2, r3)) :
  Calls Tryd.prog 83 #[.agg #[.slice A0_0 l0_0.length c0_0], .int .i64 a1, .int .i64 a2] w fun e w' => e = .returned (.tuple #[.agg #[.int .i64 r1, .int .i64 r2], .int .i64 r3]) ∧ Below w.heap.size w w' := by
 have hu24 := Tryd.underlying24
 have hu26 := Tryd.underlying26
 have HR0_0 := m0 hr0_0
 have HC0_0 := m0 hc0_0
 clear hr0_0 hc0_0
 have HB := m0 (Below.refl w.heap.size w)
 have H : ((L_openNoise.f k l0_0 a1).bind fun bt317 => ((L_thresholdErr.f a2).bind fun t321 => ((L_first.f k (([bt317.2, t321] : List Int))).bind fun t325 => (if t325 = 0 then ((L_rate.f k bt317.1 l0_0 a2).bind fun bt326 => (some (bt326.1, bt326.2, 0))) else (none))))) = some (r1, r2, r3) := h
 clear h
 replace H := ob H
 obtain ⟨⟨t317, t320⟩, A4, H⟩ := H
 (try dsimp only at H)
 replace A4 := m0 A4
 replace H := ob H
 obtain ⟨t321, A5, H⟩ := H
 (try dsimp only at H)
 replace A5 := m0 A5
 obtain ⟨y322, hy322⟩ : ∃ y_ : List Int, y_ = (([t320, t321] : List Int)) := ⟨_, rfl⟩
 replace H : ((L_first.f k y322).bind fun t325 => (if t325 = 0 then ((L_rate.f k t317 l0_0 a2).bind fun bt326 => (some (bt326.1, bt326.2, 0))) else (none))) = some (r1, r2, r3) := by first | (rw [hy322]; with_reducible exact H) | (have H2_ := (Option.bind_some _ _).symm.trans H; rw [hy322]; with_reducible exact H2_) | (have H2_ := (Option.bind_some _ _).symm.trans H; with_reducible exact H2_) | with_reducible exact H | (rw [hy322]; exact H) | exact H
 have Ny322 := m0 hy322
 clear hy322
 replace H := ob H
 obtain ⟨t325, A6, H⟩ := H
 (try dsimp only at H)
 replace A6 := m0 A6
 by_cases c7 : t325 = 0
 ·rw [if_pos c7] at H
  have c7b0 := beq_iff_eq.mpr c7
  have c7b1 := bne_eq_false_iff_eq.mpr c7
  clear c7
  replace H := ob H
  obtain ⟨⟨t326, t327⟩, A8, H⟩ := H
  (try dsimp only at H)
  replace A8 := m0 A8
  simp only [Option.some.injEq, Prod.mk.injEq] at H
  obtain ⟨rfl, rfl, rfl⟩ := H
  go_enter Tryd.func83, Tryd.ntmps83
  go_wp2_with (first | ((with_reducible refine gate_dst (N := 3) rfl ?_); refine be 3 24 #[.slice A0_0 l0_0.length c0_0] ?_; intro gb315 hg w9 hbox hb; have BK315 := m0 hbox; have GE315 := gw w hg; replace HB := sb HB hb; clear hb hbox hg) | ((with_reducible refine gate_dst (N := 6) rfl ?_); refine be 6 26 #[.int .i64 0, .int .i64 0] ?_; intro gb316 hg w10 hbox hb; have BK316 := m0 hbox; have GE316 := gw w hg; replace HB := sb HB hb; have NB315_316 := nl BK315 hg; have NB316_315 := ng (nl BK315 hg); replace BK315 := bb BK315 hb; clear hb hbox hg; have hnb11 := NB315_316.out; have hnc11 := NB316_315.out; obtain ⟨_, _⟩ := b1 BK315) | ((with_reducible refine gate_callee (f := 129) rfl ?_); refine gl (some 13) Tryd.func129 #[.agg #[.slice A0_0 l0_0.length c0_0], .int .i64 a1] ?_; (with_reducible refine (L_openNoise.calls k _ _ l0_0 a1 t317 t320 _ ?side1 ?side2 A4.out).mono ?_); (case side1 => exact cb HR0_0 HB); (case side2 => exact HC0_0.out); rintro e w13 ⟨v318, rfl, ho0, hb⟩; refine ⟨_, rfl, ?_⟩; have HO319 := m0 (Kd.R_lower ho0 (below_size bz)); replace BK315 := bb BK315 hb; replace BK316 := bb BK316 hb; replace HB := sb HB hb; (try clear hb); (try clear ho0)) | ((with_reducible refine gate_callee (f := 100) rfl ?_); refine gl (some 18) Tryd.func100 #[.int .i64 a2] ?_; (with_reducible refine (L_thresholdErr.calls a2 t321 _ A5.out).mono ?_); rintro e w' ⟨rfl, ⟨nd, rfl⟩⟩; refine ⟨_, rfl, ?_⟩; (try (rw [drewN_self w13]; generalize hq_ : World.drewN w13 _ = w13; replace HO319 := gr HO319 hq_; replace BK315 := gd BK315 hq_; replace BK316 := gd BK316 hq_; replace HB := gs HB hq_; clear hq_))) | ((with_reducible refine gate_dst (N := 19) rfl ?_); refine Kd.R_lit (Kd.int .i64) _ 31 ?hg (N := 19) ?hd (xs := ([t320, t321] : List Int)) (inner := [.int .i64 t320, .int .i64 t321]) (ok := fun _ => True) (okp := fun _ => True) ?hr ?hp (fun _ hk => hk) trivial (Below.refl _ _) (Nat.le_refl _) (by simp) ?_; (case hd => rfl); (case hg => rfl); (case hr => first | (go_simp; done) | (go_simp; rfl)); (case hp => exact (Reps.one (show Kd.M (Kd.int .i64) _ _ _ t320 [.int .i64 t320] from rfl) (Reps.one (show Kd.M (Kd.int .i64) _ _ _ t321 [.int .i64 t321] from rfl) (Reps.none _ _)))); intro v323 w14 ho15 hb hg_ hnew_; clear hg_ hnew_; (first | rw [← Ny322.out] at ho15 | (simp only [Int.reduceToNat] at ho15; rw [← Ny322.out] at ho15)); replace HO319 := rb HO319 hb; have HO324 := m0 (Kd.R_lower ho15 (below_size bz)); replace BK315 := bb BK315 hb; replace BK316 := bb BK316 hb; replace HB := sb HB hb; clear hb ho15; obtain ⟨Ao16, co16, eo16⟩ := Kd.R_slice HO324.out; subst eo16) | ((with_reducible refine gate_callee (f := 91) rfl ?_); refine gl (some 20) Tryd.func91 #[.slice Ao16 y322.length co16] ?_; (with_reducible refine (L_first.calls k _ _ y322 t325 _ ?side1 ?side2 A6.out).mono ?_); (case side1 => exact bc (Kd.R_reads' HO324.out).2.2); (case side2 => exact (Kd.R_reads' HO324.out).2.1); rintro e w' ⟨rfl, ⟨nd, rfl⟩⟩; refine ⟨_, rfl, ?_⟩; (try (rw [drewN_self w14]; generalize hq_ : World.drewN w14 _ = w14; replace HO319 := gr HO319 hq_; replace HO324 := gr HO324 hq_; replace BK315 := gd BK315 hq_; replace BK316 := gd BK316 hq_; replace HB := gs HB hq_; clear hq_)); obtain ⟨_, _⟩ := b1 BK315; obtain ⟨Ao18, co18, eo18⟩ := Kd.R_slice HO319.out; subst eo18) | ((with_reducible refine gate_callee (f := 101) rfl ?_); refine gl (some 28) Tryd.func101 #[.slice Ao18 t317.length co18, .agg #[.slice A0_0 l0_0.length c0_0], .int .i64 a2] ?_; (with_reducible refine (L_rate.calls k _ _ t317 _ _ l0_0 a2 t326 t327 _ ?side1 ?side2 ?side3 ?side4 A8.out).mono ?_); (case side1 => exact bc (Kd.R_reads' HO319.out).2.2); (case side2 => exact (Kd.R_reads' HO319.out).2.1); (case side3 => exact cb HR0_0 HB); (case side4 => exact HC0_0.out); rintro e w19 ⟨rfl, hb⟩; refine ⟨_, rfl, ?_⟩; replace HO319 := rb HO319 hb; replace HO324 := rb HO324 hb; replace BK315 := bb BK315 hb; replace BK316 := bb BK316 hb; replace HB := sb HB hb; (try clear hb); obtain ⟨_, _, _, _⟩ := b2 BK316))
  refine bodyPost_ret (results_ct rfl _ _ gb316 26 #[.int .i64 t326, .int .i64 t327] (0, 0) _ rfl (bq BK316.out) Tryd.underlying26 rfl (by kernel_rfl)) rfl ?_
  exact ez
 ·rw [if_neg c7] at H
  have c7b0 := beq_eq_false_iff_ne.mpr c7
  have c7b1 := bne_iff_ne.mpr c7
  exact absurd H (by simp)
end
section
def Lw_Noise.f  : Option (List Int) := some (([0, 1] : List Int))
theorem Lw_Noise.calls  (r : List Int) (w : World) (h : Lw_Noise.f  = some r) :
  Calls Tryd.prog 89 #[] w fun e w' => ∃ v0_ : Value, e = .returned (.agg #[v0_]) ∧ Kd.R (Kd.int .i64) 3 w' w.heap.size (fun _ => True) v0_ r ∧ Below w.heap.size w w' := by
 have hu24 := Tryd.underlying24
 have HB := m0 (Below.refl w.heap.size w)
 have H : (some (([0, 1] : List Int))) = some r := h
 clear h
 obtain ⟨y329, hy329⟩ : ∃ y_ : List Int, y_ = (([0, 1] : List Int)) := ⟨_, rfl⟩
 replace H : (some y329) = some r := by first | (rw [hy329]; with_reducible exact H) | (have H2_ := (Option.bind_some _ _).symm.trans H; rw [hy329]; with_reducible exact H2_) | (have H2_ := (Option.bind_some _ _).symm.trans H; with_reducible exact H2_) | with_reducible exact H | (rw [hy329]; exact H) | exact H
 have Ny329 := m0 hy329
 clear hy329
 obtain rfl := Option.some.inj H
 go_enter Tryd.func89, Tryd.ntmps89
 go_wp2_with (first | ((with_reducible refine gate_dst (N := 0) rfl ?_); refine be 0 24 #[.slice none 0 0] ?_; intro gb328 hg w1 hbox hb; have BK328 := m0 hbox; have GE328 := gw w hg; replace HB := sb HB hb; clear hb hbox hg) | ((with_reducible refine gate_dst (N := 1) rfl ?_); refine Kd.R_lit (Kd.int .i64) _ 3 ?hg (N := 1) ?hd (xs := ([0, 1] : List Int)) (inner := [.int .i64 0, .int .i64 1]) (ok := fun _ => True) (okp := fun _ => True) ?hr ?hp (fun _ hk => hk) trivial (Below.refl _ _) (Nat.le_refl _) (by simp) ?_; (case hd => rfl); (case hg => rfl); (case hr => first | (go_simp; done) | (go_simp; rfl)); (case hp => exact (Reps.one (show Kd.M (Kd.int .i64) _ _ _ 0 [.int .i64 0] from rfl) (Reps.one (show Kd.M (Kd.int .i64) _ _ _ 1 [.int .i64 1] from rfl) (Reps.none _ _)))); intro v330 w2 ho3 hb hg_ hnew_; clear hg_ hnew_; (first | rw [← Ny329.out] at ho3 | (simp only [Int.reduceToNat] at ho3; rw [← Ny329.out] at ho3)); have HO331 := m0 (Kd.R_lower ho3 (below_size bz)); replace BK328 := bb BK328 hb; replace HB := sb HB hb; clear hb ho3; obtain ⟨Ao4, co4, eo4⟩ := Kd.R_slice HO331.out; subst eo4; obtain ⟨_, _⟩ := b1 BK328))
 refine bodyPost_ret (results_cell_row rfl _ _ gb328 24 #[.slice Ao4 y329.length co4] (0, 0) _ rfl (bq BK328.out) Tryd.underlying24 rfl (by kernel_rfl)) rfl ?_
 exact ⟨_, by first | rfl | (simp [errW_none, errW_some] <;> rfl) | (simp [*, errW_none, errW_some] <;> rfl), by (with_reducible repeat (first | apply Kd.R_alloc | apply Kd.R_drewN | apply Kd.R_drew)); exact Kd.R_mono (Kd.R_far (p := ⟨gb328, 0, none⟩) (Kd.R_types HO331.out BK328.out (by decide)) (fun _ hk => hk.2) (.slice Ao4 y329.length co4)) (fun _ hk => trivial), by repeat (first | (with_reducible first | exact HB.out | apply below_alloc | apply pw_below_drewN | apply below_drew1 | refine below_set ?_ GE328.out) | exact HB.out)⟩
end
section
def Lw_Case.f  : Option (List Int × List Int × Int × Int) := (Lw_Noise.f).bind fun t336 => ((Bs_Whole.f 0).bind fun bt339 => (some ((([2, 2] : List Int)), t336, bt339.1, bt339.2)))
theorem Lw_Case.calls  (r1 : List Int) (r2 : List Int) (r3 : Int) (r4 : Int) (w : World) (h : Lw_Case.f  = some (r1, r2, r3, r4)) :
  Calls Tryd.prog 90 #[] w fun e w' => ∃ v0_ v1_ : Value, e = .returned (.agg #[v0_, v1_, .int .i64 r3, .int .i64 r4]) ∧ Kd.R (Kd.int .i64) 3 w' w.heap.size (fun k_ => some k_ ≠ (v1_ : Value).ownBlock) v0_ r1 ∧ Kd.R (Kd.int .i64) 3 w' w.heap.size (fun k_ => some k_ ≠ (v0_ : Value).ownBlock) v1_ r2 ∧ Below w.heap.size w w' := by
 have hu28 := Tryd.underlying28
 have HB := m0 (Below.refl w.heap.size w)
 have H : ((Lw_Noise.f).bind fun t336 => ((Bs_Whole.f 0).bind fun bt339 => (some ((([2, 2] : List Int)), t336, bt339.1, bt339.2)))) = some (r1, r2, r3, r4) := h
 clear h
 obtain ⟨y333, hy333⟩ : ∃ y_ : List Int, y_ = (([2, 2] : List Int)) := ⟨_, rfl⟩
 replace H : ((Lw_Noise.f).bind fun t336 => ((Bs_Whole.f 0).bind fun bt339 => (some (y333, t336, bt339.1, bt339.2)))) = some (r1, r2, r3, r4) := by first | (rw [hy333]; with_reducible exact H) | (have H2_ := (Option.bind_some _ _).symm.trans H; rw [hy333]; with_reducible exact H2_) | (have H2_ := (Option.bind_some _ _).symm.trans H; with_reducible exact H2_) | with_reducible exact H | (rw [hy333]; exact H) | exact H
 have Ny333 := m0 hy333
 clear hy333
 replace H := ob H
 obtain ⟨t336, A1, H⟩ := H
 (try dsimp only at H)
 replace A1 := m0 A1
 replace H := ob H
 obtain ⟨⟨t339, t340⟩, A2, H⟩ := H
 (try dsimp only at H)
 replace A2 := m0 A2
 simp only [Option.some.injEq, Prod.mk.injEq] at H
 obtain ⟨rfl, rfl, rfl, rfl⟩ := H
 go_enter Tryd.func90, Tryd.ntmps90
 go_wp2_with (first | ((with_reducible refine gate_dst (N := 0) rfl ?_); refine be 0 28 #[.slice none 0 0, .slice none 0 0, .int .i64 0, .int .i64 0] ?_; intro gb332 hg w3 hbox hb; have BK332 := m0 hbox; have GE332 := gw w hg; replace HB := sb HB hb; clear hb hbox hg) | ((with_reducible refine gate_dst (N := 1) rfl ?_); refine Kd.R_lit (Kd.int .i64) _ 3 ?hg (N := 1) ?hd (xs := ([2, 2] : List Int)) (inner := [.int .i64 2, .int .i64 2]) (ok := fun _ => True) (okp := fun _ => True) ?hr ?hp (fun _ hk => hk) trivial (Below.refl _ _) (Nat.le_refl _) (by simp) ?_; (case hd => rfl); (case hg => rfl); (case hr => first | (go_simp; done) | (go_simp; rfl)); (case hp => exact (Reps.one (show Kd.M (Kd.int .i64) _ _ _ 2 [.int .i64 2] from rfl) (Reps.one (show Kd.M (Kd.int .i64) _ _ _ 2 [.int .i64 2] from rfl) (Reps.none _ _)))); intro v334 w4 ho5 hb hg_ hnew_; clear hg_ hnew_; (first | rw [← Ny333.out] at ho5 | (simp only [Int.reduceToNat] at ho5; rw [← Ny333.out] at ho5)); have HO335 := m0 (Kd.R_lower ho5 (below_size bz)); replace BK332 := bb BK332 hb; replace HB := sb HB hb; clear hb ho5) | ((with_reducible refine gate_callee (f := 89) rfl ?_); refine gl (some 2) Tryd.func89 #[] ?_; (with_reducible refine (Lw_Noise.calls  t336 _ A1.out).mono ?_); rintro e w6 ⟨v337, rfl, ho0, hb⟩; refine ⟨_, rfl, ?_⟩; have HO338 := m0 (Kd.R_lower (Kd.R_new' ho0 (Kd.R_lt (br HO335.out))) (below_size bz)); replace HO335 := m0 (Kd.R_elder' (br HO335.out) (Kd.R_base ho0) hb); replace BK332 := bb BK332 hb; replace HB := sb HB hb; (try clear hb); (try clear ho0)) | ((with_reducible refine gate_callee (f := 38) rfl ?_); refine gl (some 3) Tryd.func38 #[.int .i64 0] ?_; (with_reducible refine (Bs_Whole.calls 0 t339 t340 _ A2.out).mono ?_); rintro e w7 ⟨rfl, hb⟩; refine ⟨_, rfl, ?_⟩; replace HO335 := rb HO335 hb; replace HO338 := rb HO338 hb; replace BK332 := bb BK332 hb; replace HB := sb HB hb; (try clear hb); obtain ⟨Ao8, co8, eo8⟩ := Kd.R_slice HO338.out; subst eo8; obtain ⟨Ao9, co9, eo9⟩ := Kd.R_slice HO335.out; subst eo9; obtain ⟨_, _, _, _, _, _, _, _⟩ := b4 BK332))
 refine bodyPost_ret (results_cell_row rfl _ _ gb332 28 #[.slice Ao9 y333.length co9, .slice Ao8 t336.length co8, .int .i64 t339, .int .i64 t340] (0, 0) _ rfl (bq BK332.out) Tryd.underlying28 rfl (by kernel_rfl)) rfl ?_
 exact ⟨_, _, by first | rfl | (simp [errW_none, errW_some] <;> rfl) | (simp [*, errW_none, errW_some] <;> rfl), by (with_reducible repeat (first | apply Kd.R_alloc | apply Kd.R_drewN | apply Kd.R_drew)); exact Kd.R_mono (Kd.R_far (p := ⟨gb332, 3, none⟩) (Kd.R_far (p := ⟨gb332, 2, none⟩) (Kd.R_far (p := ⟨gb332, 1, none⟩) (Kd.R_far (p := ⟨gb332, 0, none⟩) (Kd.R_types HO335.out BK332.out (by decide)) (fun _ hk => hk.2) (.slice Ao9 y333.length co9)) (fun _ hk => hk.2) (.slice Ao8 t336.length co8)) (fun _ hk => hk.2) (.int .i64 t339)) (fun _ hk => hk.2) (.int .i64 t340)) (fun _ hk => hk.1.2), by (with_reducible repeat (first | apply Kd.R_alloc | apply Kd.R_drewN | apply Kd.R_drew)); exact Kd.R_mono (Kd.R_far (p := ⟨gb332, 3, none⟩) (Kd.R_far (p := ⟨gb332, 2, none⟩) (Kd.R_far (p := ⟨gb332, 1, none⟩) (Kd.R_far (p := ⟨gb332, 0, none⟩) (Kd.R_types HO338.out BK332.out (by decide)) (fun _ hk => hk.2) (.slice Ao9 y333.length co9)) (fun _ hk => hk.2) (.slice Ao8 t336.length co8)) (fun _ hk => hk.2) (.int .i64 t339)) (fun _ hk => hk.2) (.int .i64 t340)) (fun _ hk => hk.1.2), by repeat (first | (with_reducible first | exact HB.out | apply below_alloc | apply pw_below_drewN | apply below_drew1 | refine below_set ?_ GE332.out) | exact HB.out)⟩
end
section
attribute [local go_sem high] eqA26 eqA36
def Lw_awake.f (k : Nat)  : Option (Bool) := (L_Estimated.f k (([1, 4, 2, 0] : List Int)) 2).bind fun bt344 => ((Lw_Noise.f).bind fun t348 => ((L_FalseRate.f k t348 2 1).bind fun bt351 => ((Lw_Case.f).bind fun bt355 => ((L_BiasOf.f k bt355.1 bt355.2.1 bt355.2.2.1 bt355.2.2.2 0).bind fun bt363 => ((Lw_Case.f).bind fun bt367 => ((L_WorstOf.f k bt367.1 bt367.2.1 bt367.2.2.1 bt367.2.2.2 1).bind fun bt375 => ((L_DetectionsIn.f k (([0, 5, 5, 1, 3] : List Int)) 3 1).bind fun bt383 => ((Bs_Lowest.f k 11 10).bind fun bt387 => ((L_SpeedAt.f k bt387.1 bt387.2 2 50 1).bind fun bt389 => (if bt344.2.2 = 0 then ((Bs_Lowest.f k 11 10).bind fun bt393 => (if (bt344.1 == bt393.1 && (bt344.2.1 == bt393.2)) = true then (if bt351.2.2 = 0 then ((Bs_Lowest.f k 3 4).bind fun bt395 => (if (bt351.1 == bt395.1 && (bt351.2.1 == bt395.2)) = true then (if bt363.2.2 = 0 then ((Bs_Lowest.f k 1 4).bind fun bt397 => (if (bt363.1 == bt397.1 && (bt363.2.1 == bt397.2)) = true then (if bt375.2.2.2 = 0 then ((Bs_Lowest.f k 3 5).bind fun bt399 => (if ((bt375.1 == bt399.1 && (bt375.2.1 == bt399.2)) && (bt375.2.2.1 == 2)) = true then (if bt383.2 = 0 then ((Bs_Ints.f k bt383.1 (([1, 4] : List Int))).bind fun t404 => (if t404 = true then (if bt389.2.2 = 0 then ((Bs_Whole.f (-45)).bind fun bt405 => (some (bt389.1 == bt405.1 && (bt389.2.1 == bt405.2)))) else (none)) else (none))) else (none)) else (none))) else (none)) else (none))) else (none)) else (none))) else (none)) else (none))) else (none)))))))))))
theorem Lw_awake.mono : ∀ k, LeO (Lw_awake.f k ) (Lw_awake.f (k + 1) ) := by
 intro  k
 unfold Lw_awake.f
 repeat' with_reducible first
  | exact Bs_Ints.mono ..
  | exact Bs_Lowest.mono ..
  | exact L_BiasOf.mono ..
  | exact L_DetectionsIn.mono ..
  | exact L_Estimated.mono ..
  | exact L_FalseRate.mono ..
  | exact L_SpeedAt.mono ..
  | exact L_WorstOf.mono ..
  | exact LeO.refl ..
  | exact LeO.none ..
  | refine LeO.ite ?_ ?_
  | refine LeO.bind ?_ (fun _ => ?_)
def Lw_awake.T7 : Bool × List (List Nat × List Nat) := (true, [([], []), ([0], [0]), ([1], [1]), ([2], [2]), ([2, 2], [2]), ([3, 4, 2], [2, 3, 4]), ([2, 5], [2, 5]), ([6, 4], [6]), ([7], [7]), ([8, 7], [7, 8]), ([7, 9], [7, 9]), ([10, 7], [10]), ([11], [11]), ([11, 11], [11]), ([12, 13, 11], [11, 12, 13]), ([11, 14], [11, 14]), ([15, 13], [15]), ([16], [16]), ([17, 16], [16, 17]), ([16, 18], [16, 18]), ([19, 16], [19]), ([20], [20]), ([20, 20], [20]), ([21, 22, 20], [20, 21, 22]), ([20, 23], [20, 23]), ([24, 22], [24]), ([25], [25]), ([26, 25], [25, 26]), ([25, 27], [25, 27]), ([28, 25], [28]), ([29], [29]), ([29, 29], [29]), ([31, 29], [29, 31]), ([30, 32, 29], [29, 30, 32]), ([29, 33], [29, 33]), ([34, 31], [34]), ([35], [35]), ([36, 35], [35, 36]), ([35, 37], [35, 37]), ([38, 35], [38]), ([39], [39]), ([39], [39]), ([40, 41, 39, 39], [39, 40, 41]), ([39, 42], [39, 42]), ([43, 42], [43]), ([44], [44]), ([45, 44], [44, 45]), ([44, 46], [44, 46]), ([47, 44], [47]), ([48], [48]), ([48, 48], [48]), ([49, 50, 48], [48, 49, 50]), ([48, 51], [48, 51]), ([52, 50, 0, 1, 2, 3, 4, 5, 6, 7, 8, 9, 10, 11, 12, 13, 14, 15, 16, 17, 18, 19, 20, 21, 22, 23, 24, 25, 26, 27, 28, 29, 30, 31, 32, 33, 34, 35, 36, 37, 38, 39, 40, 41, 42, 43, 44, 45, 46, 47, 48, 49, 50, 51, 52], [52])])
def Lw_awake.B7 : List Nat := [0, 1, 3, 7, 7, 31, 63, 127, 255, 511, 1023, 2047, 4095, 4095, 16383, 32767, 65535, 131071, 262143, 524287, 1048575, 2097151, 2097151, 8388607, 16777215, 33554431, 67108863, 134217727, 268435455, 536870911, 1073741823, 1073741823, 3221225471, 8589934591, 17179869183, 34359738367, 68719476735, 137438953471, 274877906943, 549755813887, 1099511627775, 1099511627775, 4398046511103, 8796093022207, 17592186044415, 35184372088831, 70368744177663, 140737488355327, 281474976710655, 562949953421311, 562949953421311, 2251799813685247, 4503599627370495, 9007199254740991]
theorem Lw_awake.tab7 : rtab .any (opsOf Tryd.f18 7) = Lw_awake.T7 := by kernel_rfl
theorem Lw_awake.bits7 : waitsOk Lw_awake.T7.2 Lw_awake.B7 = true := by kernel_rfl
theorem Lw_awake.calls (k : Nat)  (r : Bool) (w : World) (hG : EstG w) (h : Lw_awake.f k  = some r) :
  Calls Tryd.prog 18 #[] w fun e w' => e = .returned (.bool r) ∧ Below w.heap.size w w' := by
 have hu26 := Tryd.underlying26
 have hu36 := Tryd.underlying36
 have hu57 := Tryd.underlying57
 have hu63 := Tryd.underlying63
 have HG := m0 hG
 clear hG
 have HB := m0 (Below.refl w.heap.size w)
 have H : ((L_Estimated.f k (([1, 4, 2, 0] : List Int)) 2).bind fun bt344 => ((Lw_Noise.f).bind fun t348 => ((L_FalseRate.f k t348 2 1).bind fun bt351 => ((Lw_Case.f).bind fun bt355 => ((L_BiasOf.f k bt355.1 bt355.2.1 bt355.2.2.1 bt355.2.2.2 0).bind fun bt363 => ((Lw_Case.f).bind fun bt367 => ((L_WorstOf.f k bt367.1 bt367.2.1 bt367.2.2.1 bt367.2.2.2 1).bind fun bt375 => ((L_DetectionsIn.f k (([0, 5, 5, 1, 3] : List Int)) 3 1).bind fun bt383 => ((Bs_Lowest.f k 11 10).bind fun bt387 => ((L_SpeedAt.f k bt387.1 bt387.2 2 50 1).bind fun bt389 => (if bt344.2.2 = 0 then ((Bs_Lowest.f k 11 10).bind fun bt393 => (if (bt344.1 == bt393.1 && (bt344.2.1 == bt393.2)) = true then (if bt351.2.2 = 0 then ((Bs_Lowest.f k 3 4).bind fun bt395 => (if (bt351.1 == bt395.1 && (bt351.2.1 == bt395.2)) = true then (if bt363.2.2 = 0 then ((Bs_Lowest.f k 1 4).bind fun bt397 => (if (bt363.1 == bt397.1 && (bt363.2.1 == bt397.2)) = true then (if bt375.2.2.2 = 0 then ((Bs_Lowest.f k 3 5).bind fun bt399 => (if ((bt375.1 == bt399.1 && (bt375.2.1 == bt399.2)) && (bt375.2.2.1 == 2)) = true then (if bt383.2 = 0 then ((Bs_Ints.f k bt383.1 (([1, 4] : List Int))).bind fun t404 => (if t404 = true then (if bt389.2.2 = 0 then ((Bs_Whole.f (-45)).bind fun bt405 => (some (bt389.1 == bt405.1 && (bt389.2.1 == bt405.2)))) else (none)) else (none))) else (none)) else (none))) else (none)) else (none))) else (none)) else (none))) else (none)) else (none))) else (none)))))))))))) = some r := h
 clear h
 obtain ⟨y341, hy341⟩ : ∃ y_ : List Int, y_ = (([1, 4, 2, 0] : List Int)) := ⟨_, rfl⟩
 replace H : ((L_Estimated.f k y341 2).bind fun bt344 => ((Lw_Noise.f).bind fun t348 => ((L_FalseRate.f k t348 2 1).bind fun bt351 => ((Lw_Case.f).bind fun bt355 => ((L_BiasOf.f k bt355.1 bt355.2.1 bt355.2.2.1 bt355.2.2.2 0).bind fun bt363 => ((Lw_Case.f).bind fun bt367 => ((L_WorstOf.f k bt367.1 bt367.2.1 bt367.2.2.1 bt367.2.2.2 1).bind fun bt375 => ((L_DetectionsIn.f k (([0, 5, 5, 1, 3] : List Int)) 3 1).bind fun bt383 => ((Bs_Lowest.f k 11 10).bind fun bt387 => ((L_SpeedAt.f k bt387.1 bt387.2 2 50 1).bind fun bt389 => (if bt344.2.2 = 0 then ((Bs_Lowest.f k 11 10).bind fun bt393 => (if (bt344.1 == bt393.1 && (bt344.2.1 == bt393.2)) = true then (if bt351.2.2 = 0 then ((Bs_Lowest.f k 3 4).bind fun bt395 => (if (bt351.1 == bt395.1 && (bt351.2.1 == bt395.2)) = true then (if bt363.2.2 = 0 then ((Bs_Lowest.f k 1 4).bind fun bt397 => (if (bt363.1 == bt397.1 && (bt363.2.1 == bt397.2)) = true then (if bt375.2.2.2 = 0 then ((Bs_Lowest.f k 3 5).bind fun bt399 => (if ((bt375.1 == bt399.1 && (bt375.2.1 == bt399.2)) && (bt375.2.2.1 == 2)) = true then (if bt383.2 = 0 then ((Bs_Ints.f k bt383.1 (([1, 4] : List Int))).bind fun t404 => (if t404 = true then (if bt389.2.2 = 0 then ((Bs_Whole.f (-45)).bind fun bt405 => (some (bt389.1 == bt405.1 && (bt389.2.1 == bt405.2)))) else (none)) else (none))) else (none)) else (none))) else (none)) else (none))) else (none)) else (none))) else (none)) else (none))) else (none)))))))))))) = some r := by first | (rw [hy341]; with_reducible exact H) | (have H2_ := (Option.bind_some _ _).symm.trans H; rw [hy341]; with_reducible exact H2_) | (have H2_ := (Option.bind_some _ _).symm.trans H; with_reducible exact H2_) | with_reducible exact H | (rw [hy341]; exact H) | exact H
 have Ny341 := m0 hy341
 clear hy341
 replace H := ob H
 obtain ⟨⟨t344, t345, t346⟩, A1, H⟩ := H
 (try dsimp only at H)
 replace A1 := m0 A1
 replace H := ob H
 obtain ⟨t348, A2, H⟩ := H
 (try dsimp only at H)
 replace A2 := m0 A2
 replace H := ob H
 obtain ⟨⟨t351, t352, t353⟩, A3, H⟩ := H
 (try dsimp only at H)
 replace A3 := m0 A3
 replace H := ob H
 obtain ⟨⟨t355, t358, t361, t362⟩, A4, H⟩ := H
 (try dsimp only at H)
 replace A4 := m0 A4
 replace H := ob H
 obtain ⟨⟨t363, t364, t365⟩, A5, H⟩ := H
 (try dsimp only at H)
 replace A5 := m0 A5
 replace H := ob H
 obtain ⟨⟨t367, t370, t373, t374⟩, A6, H⟩ := H
 (try dsimp only at H)
 replace A6 := m0 A6
 replace H := ob H
 obtain ⟨⟨t375, t376, t377, t378⟩, A7, H⟩ := H
 (try dsimp only at H)
 replace A7 := m0 A7
 obtain ⟨y380, hy380⟩ : ∃ y_ : List Int, y_ = (([0, 5, 5, 1, 3] : List Int)) := ⟨_, rfl⟩
 replace H : ((L_DetectionsIn.f k y380 3 1).bind fun bt383 => ((Bs_Lowest.f k 11 10).bind fun bt387 => ((L_SpeedAt.f k bt387.1 bt387.2 2 50 1).bind fun bt389 => (if t346 = 0 then ((Bs_Lowest.f k 11 10).bind fun bt393 => (if (t344 == bt393.1 && (t345 == bt393.2)) = true then (if t353 = 0 then ((Bs_Lowest.f k 3 4).bind fun bt395 => (if (t351 == bt395.1 && (t352 == bt395.2)) = true then (if t365 = 0 then ((Bs_Lowest.f k 1 4).bind fun bt397 => (if (t363 == bt397.1 && (t364 == bt397.2)) = true then (if t378 = 0 then ((Bs_Lowest.f k 3 5).bind fun bt399 => (if ((t375 == bt399.1 && (t376 == bt399.2)) && (t377 == 2)) = true then (if bt383.2 = 0 then ((Bs_Ints.f k bt383.1 (([1, 4] : List Int))).bind fun t404 => (if t404 = true then (if bt389.2.2 = 0 then ((Bs_Whole.f (-45)).bind fun bt405 => (some (bt389.1 == bt405.1 && (bt389.2.1 == bt405.2)))) else (none)) else (none))) else (none)) else (none))) else (none)) else (none))) else (none)) else (none))) else (none)) else (none))) else (none))))) = some r := by first | (rw [hy380]; with_reducible exact H) | (have H2_ := (Option.bind_some _ _).symm.trans H; rw [hy380]; with_reducible exact H2_) | (have H2_ := (Option.bind_some _ _).symm.trans H; with_reducible exact H2_) | with_reducible exact H | (rw [hy380]; exact H) | exact H
 have Ny380 := m0 hy380
 clear hy380
 replace H := ob H
 obtain ⟨⟨t383, t386⟩, A8, H⟩ := H
 (try dsimp only at H)
 replace A8 := m0 A8
 replace H := ob H
 obtain ⟨⟨t387, t388⟩, A9, H⟩ := H
 (try dsimp only at H)
 replace A9 := m0 A9
 replace H := ob H
 obtain ⟨⟨t389, t390, t391⟩, A10, H⟩ := H
 (try dsimp only at H)
 replace A10 := m0 A10
 by_cases c11 : t346 = 0
 ·rw [if_pos c11] at H
  have c11b0 := beq_iff_eq.mpr c11
  have c11b1 := bne_eq_false_iff_eq.mpr c11
  clear c11
  replace H := ob H
  obtain ⟨⟨t393, t394⟩, A12, H⟩ := H
  (try dsimp only at H)
  replace A12 := m0 A12
  by_cases c13 : (t344 == t393 && (t345 == t394)) = true
  ·rw [if_pos c13] at H
   have c13b0 : (t344 == t393 && (t345 == t394)) = true := c13
   (try (have c13b1 : decide (t344 = t393 && (t345 == t394)) = true := by simpa using c13))
   (try (have c13b2 : (t344 == t393 && (t345 == t394)) = true := by simpa using c13))
   clear c13
   by_cases c14 : t353 = 0
   ·rw [if_pos c14] at H
    have c14b0 := beq_iff_eq.mpr c14
    have c14b1 := bne_eq_false_iff_eq.mpr c14
    clear c14
    replace H := ob H
    obtain ⟨⟨t395, t396⟩, A15, H⟩ := H
    (try dsimp only at H)
    replace A15 := m0 A15
    by_cases c16 : (t351 == t395 && (t352 == t396)) = true
    ·rw [if_pos c16] at H
     have c16b0 : (t351 == t395 && (t352 == t396)) = true := c16
     (try (have c16b1 : decide (t351 = t395 && (t352 == t396)) = true := by simpa using c16))
     (try (have c16b2 : (t351 == t395 && (t352 == t396)) = true := by simpa using c16))
     clear c16
     by_cases c17 : t365 = 0
     ·rw [if_pos c17] at H
      have c17b0 := beq_iff_eq.mpr c17
      have c17b1 := bne_eq_false_iff_eq.mpr c17
      clear c17
      replace H := ob H
      obtain ⟨⟨t397, t398⟩, A18, H⟩ := H
      (try dsimp only at H)
      replace A18 := m0 A18
      by_cases c19 : (t363 == t397 && (t364 == t398)) = true
      ·rw [if_pos c19] at H
       have c19b0 : (t363 == t397 && (t364 == t398)) = true := c19
       (try (have c19b1 : decide (t363 = t397 && (t364 == t398)) = true := by simpa using c19))
       (try (have c19b2 : (t363 == t397 && (t364 == t398)) = true := by simpa using c19))
       clear c19
       by_cases c20 : t378 = 0
       ·rw [if_pos c20] at H
        have c20b0 := beq_iff_eq.mpr c20
        have c20b1 := bne_eq_false_iff_eq.mpr c20
        clear c20
        replace H := ob H
        obtain ⟨⟨t399, t400⟩, A21, H⟩ := H
        (try dsimp only at H)
        replace A21 := m0 A21
        by_cases c22 : ((t375 == t399 && (t376 == t400)) && (t377 == 2)) = true
        ·rw [if_pos c22] at H
         have c22b0 : ((t375 == t399 && (t376 == t400)) && (t377 == 2)) = true := c22
         clear c22
         by_cases c23 : t386 = 0
         ·rw [if_pos c23] at H
          have c23b0 := beq_iff_eq.mpr c23
          have c23b1 := bne_eq_false_iff_eq.mpr c23
          clear c23
          obtain ⟨y401, hy401⟩ : ∃ y_ : List Int, y_ = (([1, 4] : List Int)) := ⟨_, rfl⟩
          replace H : ((Bs_Ints.f k t383 y401).bind fun t404 => (if t404 = true then (if t391 = 0 then ((Bs_Whole.f (-45)).bind fun bt405 => (some (t389 == bt405.1 && (t390 == bt405.2)))) else (none)) else (none))) = some r := by first | (rw [hy401]; with_reducible exact H) | (have H2_ := (Option.bind_some _ _).symm.trans H; rw [hy401]; with_reducible exact H2_) | (have H2_ := (Option.bind_some _ _).symm.trans H; with_reducible exact H2_) | with_reducible exact H | (rw [hy401]; exact H) | exact H
          have Ny401 := m0 hy401
          clear hy401
          replace H := ob H
          obtain ⟨t404, A24, H⟩ := H
          (try dsimp only at H)
          replace A24 := m0 A24
          by_cases c25 : t404 = true
          ·subst c25
           rw [if_pos rfl] at H
           by_cases c26 : t391 = 0
           ·rw [if_pos c26] at H
            have c26b0 := beq_iff_eq.mpr c26
            have c26b1 := bne_eq_false_iff_eq.mpr c26
            clear c26
            replace H := ob H
            obtain ⟨⟨t405, t406⟩, A27, H⟩ := H
            (try dsimp only at H)
            replace A27 := m0 A27
            obtain rfl := Option.some.inj H
            go_enter Tryd.func18, Tryd.ntmps18
            try go_wp2_with (first | ((with_reducible refine gate_dst (N := 14) rfl ?_); (try (refine gate_guard (by rfl) ?_; dsimp only)); refine Kd.R_lit (Kd.int .i64) _ 3 ?hg (N := 14) ?hd (xs := ([1, 4, 2, 0] : List Int)) (inner := [.int .i64 1, .int .i64 4, .int .i64 2, .int .i64 0]) (ok := fun _ => True) (okp := fun _ => True) ?hr ?hp (fun _ hk => hk) trivial (Below.refl _ _) (Nat.le_refl _) (by simp) ?_; (case hd => rfl); (case hg => rfl); (case hr => first | (go_simp; done) | (go_simp; rfl)); (case hp => exact (Reps.one (show Kd.M (Kd.int .i64) _ _ _ 1 [.int .i64 1] from rfl) (Reps.one (show Kd.M (Kd.int .i64) _ _ _ 4 [.int .i64 4] from rfl) (Reps.one (show Kd.M (Kd.int .i64) _ _ _ 2 [.int .i64 2] from rfl) (Reps.one (show Kd.M (Kd.int .i64) _ _ _ 0 [.int .i64 0] from rfl) (Reps.none _ _)))))); intro v342 w28 ho29 hb hg_ hnew_; clear hg_ hnew_; (first | rw [← Ny341.out] at ho29 | (simp only [Int.reduceToNat] at ho29; rw [← Ny341.out] at ho29)); have HO343 := m0 (Kd.R_lower ho29 (below_size bz)); replace HB := sb HB hb; clear hb ho29; obtain ⟨Ao30, co30, eo30⟩ := Kd.R_slice HO343.out; subst eo30) | ((with_reducible refine gate_callee (f := 34) rfl ?_); refine gl (some 15) Tryd.func34 #[.slice Ao30 y341.length co30, .int .i64 2] ?_; (with_reducible refine (L_Estimated.calls k _ _ y341 2 t344 t345 t346 _ ?side1 ?side2 ?side3 A1.out).mono ?_); (case side1 => exact bc (Kd.R_reads' HO343.out).2.2); (case side2 => exact (Kd.R_reads' HO343.out).2.1); (case side3 => exact EstG.below HG.out bz); rintro e w31 ⟨rfl, hb⟩; refine ⟨_, rfl, ?_⟩; replace HO343 := rb HO343 hb; replace HB := sb HB hb; (try clear hb)) | ((with_reducible refine gate_dst (N := 1) rfl ?_); (try (refine gate_guard (by rfl) ?_; dsimp only)); refine be 1 26 #[.int .i64 0, .int .i64 0] ?_; intro gb347 hg w32 hbox hb; replace HO343 := rb HO343 hb; have BK347 := m0 hbox; have GE347 := gw w hg; replace HB := sb HB hb; clear hb hbox hg; obtain ⟨_, _, _, _⟩ := b2 BK347) | ((with_reducible refine gate_callee (f := 89) rfl ?_); refine gl (some 19) Tryd.func89 #[] ?_; (with_reducible refine (Lw_Noise.calls  t348 _ A2.out).mono ?_); rintro e w34 ⟨v349, rfl, ho0, hb⟩; refine ⟨_, rfl, ?_⟩; have HO350 := m0 (Kd.R_lower (Kd.R_new' ho0 (Kd.R_lt (by (with_reducible repeat (first | apply Kd.R_alloc | apply Kd.R_drewN | apply Kd.R_drew)); exact (Kd.R_mono (Kd.R_far (p := ⟨gb347, 1, none⟩) (Kd.R_far (p := ⟨gb347, 0, none⟩) (Kd.R_types HO343.out BK347.out (by decide)) (fun _ hk => hk.2) (.int .i64 t344)) (fun _ hk => hk.2) (.int .i64 t345)) (fun _ h_ => h_.1))))) (below_size bz)); replace HO343 := m0 (Kd.R_elder' (by (with_reducible repeat (first | apply Kd.R_alloc | apply Kd.R_drewN | apply Kd.R_drew)); exact (Kd.R_mono (Kd.R_far (p := ⟨gb347, 1, none⟩) (Kd.R_far (p := ⟨gb347, 0, none⟩) (Kd.R_types HO343.out BK347.out (by decide)) (fun _ hk => hk.2) (.int .i64 t344)) (fun _ hk => hk.2) (.int .i64 t345)) (fun _ h_ => h_.1))) (Kd.R_base ho0) hb); replace BK347 := m0 (blk_below (g := gb347) (o := .cells #[.int .i64 t344, .int .i64 t345] 26 (0, 0)) (bq BK347.out) hb); replace HB := sb HB hb; (try clear hb); (try clear ho0); obtain ⟨Ao35, co35, eo35⟩ := Kd.R_slice HO350.out; subst eo35) | ((with_reducible refine gate_callee (f := 83) rfl ?_); refine gl (some 20) Tryd.func83 #[.agg #[.slice Ao35 t348.length co35], .int .i64 2, .int .i64 1] ?_; (with_reducible refine (L_FalseRate.calls k _ _ t348 2 1 t351 t352 t353 _ ?side1 ?side2 A3.out).mono ?_); (case side1 => exact bc (Kd.R_reads' HO350.out).2.2); (case side2 => exact (Kd.R_reads' HO350.out).2.1); rintro e w36 ⟨rfl, hb⟩; refine ⟨_, rfl, ?_⟩; replace HO343 := rb HO343 hb; replace HO350 := rb HO350 hb; replace BK347 := bb BK347 hb; replace HB := sb HB hb; (try clear hb)) | ((with_reducible refine gate_dst (N := 3) rfl ?_); (try (refine gate_guard (by rfl) ?_; dsimp only)); refine be 3 26 #[.int .i64 0, .int .i64 0] ?_; intro gb354 hg w37 hbox hb; replace HO343 := rb HO343 hb; replace HO350 := rb HO350 hb; have BK354 := m0 hbox; have GE354 := gw w hg; replace HB := sb HB hb; have NB347_354 := nl BK347 hg; have NB354_347 := ng (nl BK347 hg); replace BK347 := bb BK347 hb; clear hb hbox hg; have hnb38 := NB354_347.out; have hnc38 := NB347_354.out; obtain ⟨_, _, _, _⟩ := b2 BK354) | ((with_reducible refine gate_callee (f := 90) rfl ?_); refine gl (some 24) Tryd.func90 #[] ?_; (with_reducible refine (Lw_Case.calls  t355 t358 t361 t362 _ A4.out).mono ?_); rintro e w40 ⟨v356, v359, rfl, ho0, ho1, hb⟩; refine ⟨_, rfl, ?_⟩; have HO357 := m0 (Kd.R_lower (Kd.R_new' (Kd.R_new' ho0 (Kd.R_lt (by (with_reducible repeat (first | apply Kd.R_alloc | apply Kd.R_drewN | apply Kd.R_drew)); exact (Kd.R_mono (Kd.R_far (p := ⟨gb354, 1, none⟩) (Kd.R_far (p := ⟨gb354, 0, none⟩) (Kd.R_types HO343.out BK354.out (by decide)) (fun _ hk => hk.2) (.int .i64 t351)) (fun _ hk => hk.2) (.int .i64 t352)) (fun _ h_ => h_.1))))) (Kd.R_lt (by (with_reducible repeat (first | apply Kd.R_alloc | apply Kd.R_drewN | apply Kd.R_drew)); exact (Kd.R_mono (Kd.R_far (p := ⟨gb354, 1, none⟩) (Kd.R_far (p := ⟨gb354, 0, none⟩) (Kd.R_types HO350.out BK354.out (by decide)) (fun _ hk => hk.2) (.int .i64 t351)) (fun _ hk => hk.2) (.int .i64 t352)) (fun _ h_ => h_.1))))) (below_size bz)); have HO360 := m0 (Kd.R_lower (Kd.R_new' (Kd.R_new' ho1 (Kd.R_lt (by (with_reducible repeat (first | apply Kd.R_alloc | apply Kd.R_drewN | apply Kd.R_drew)); exact (Kd.R_mono (Kd.R_far (p := ⟨gb354, 1, none⟩) (Kd.R_far (p := ⟨gb354, 0, none⟩) (Kd.R_types HO343.out BK354.out (by decide)) (fun _ hk => hk.2) (.int .i64 t351)) (fun _ hk => hk.2) (.int .i64 t352)) (fun _ h_ => h_.1))))) (Kd.R_lt (by (with_reducible repeat (first | apply Kd.R_alloc | apply Kd.R_drewN | apply Kd.R_drew)); exact (Kd.R_mono (Kd.R_far (p := ⟨gb354, 1, none⟩) (Kd.R_far (p := ⟨gb354, 0, none⟩) (Kd.R_types HO350.out BK354.out (by decide)) (fun _ hk => hk.2) (.int .i64 t351)) (fun _ hk => hk.2) (.int .i64 t352)) (fun _ h_ => h_.1))))) (below_size bz)); replace HO343 := m0 (Kd.R_mono (Kd.R_told (Kd.R_told (Kd.R_old (by (with_reducible repeat (first | apply Kd.R_alloc | apply Kd.R_drewN | apply Kd.R_drew)); exact (Kd.R_mono (Kd.R_far (p := ⟨gb354, 1, none⟩) (Kd.R_far (p := ⟨gb354, 0, none⟩) (Kd.R_types HO343.out BK354.out (by decide)) (fun _ hk => hk.2) (.int .i64 t351)) (fun _ hk => hk.2) (.int .i64 t352)) (fun _ h_ => h_.1))) hb) (Kd.R_base ho0)) (Kd.R_base ho1)) (fun _ h_ => h_.1)); replace HO350 := m0 (Kd.R_mono (Kd.R_told (Kd.R_told (Kd.R_old (by (with_reducible repeat (first | apply Kd.R_alloc | apply Kd.R_drewN | apply Kd.R_drew)); exact (Kd.R_mono (Kd.R_far (p := ⟨gb354, 1, none⟩) (Kd.R_far (p := ⟨gb354, 0, none⟩) (Kd.R_types HO350.out BK354.out (by decide)) (fun _ hk => hk.2) (.int .i64 t351)) (fun _ hk => hk.2) (.int .i64 t352)) (fun _ h_ => h_.1))) hb) (Kd.R_base ho0)) (Kd.R_base ho1)) (fun _ h_ => h_.1)); replace BK347 := m0 (blk_below (g := gb347) (o := .cells #[.int .i64 t344, .int .i64 t345] 26 (0, 0)) (bq BK347.out) hb); replace BK354 := m0 (blk_below (g := gb354) (o := .cells #[.int .i64 t351, .int .i64 t352] 26 (0, 0)) (bq BK354.out) hb); replace HB := sb HB hb; (try clear hb); (try clear ho0); (try clear ho1); obtain ⟨Ao41, co41, eo41⟩ := Kd.R_slice HO357.out; subst eo41; obtain ⟨Ao42, co42, eo42⟩ := Kd.R_slice HO360.out; subst eo42) | ((with_reducible refine gate_callee (f := 20) rfl ?_); refine gl (some 25) Tryd.func20 #[.agg #[.slice Ao41 t355.length co41, .slice Ao42 t358.length co42, .int .i64 t361, .int .i64 t362], .int .i64 0] ?_; (with_reducible refine (L_BiasOf.calls k _ _ t355 _ _ t358 t361 t362 0 t363 t364 t365 _ ?side1 ?side2 ?side3 ?side4 ?side5 A5.out).mono ?_); (case side1 => exact bc (Kd.R_reads' HO357.out).2.2); (case side2 => exact (Kd.R_reads' HO357.out).2.1); (case side3 => exact bc (Kd.R_reads' HO360.out).2.2); (case side4 => exact (Kd.R_reads' HO360.out).2.1); (case side5 => exact EstG.below HG.out bz); rintro e w43 ⟨rfl, hb⟩; refine ⟨_, rfl, ?_⟩; replace HO343 := rb HO343 hb; replace HO350 := rb HO350 hb; replace HO357 := rb HO357 hb; replace HO360 := rb HO360 hb; replace BK347 := bb BK347 hb; replace BK354 := bb BK354 hb; replace HB := sb HB hb; (try clear hb)) | ((with_reducible refine gate_dst (N := 5) rfl ?_); (try (refine gate_guard (by rfl) ?_; dsimp only)); refine be 5 26 #[.int .i64 0, .int .i64 0] ?_; intro gb366 hg w44 hbox hb; replace HO343 := rb HO343 hb; replace HO350 := rb HO350 hb; replace HO357 := rb HO357 hb; replace HO360 := rb HO360 hb; have BK366 := m0 hbox; have GE366 := gw w hg; replace HB := sb HB hb; have NB347_366 := nl BK347 hg; have NB366_347 := ng (nl BK347 hg); replace BK347 := bb BK347 hb; have NB354_366 := nl BK354 hg; have NB366_354 := ng (nl BK354 hg); replace BK354 := bb BK354 hb; clear hb hbox hg; have hnb45 := NB366_347.out; have hnc45 := NB347_366.out; have hnb46 := NB366_354.out; have hnc46 := NB354_366.out; obtain ⟨_, _, _, _⟩ := b2 BK366) | ((with_reducible refine gate_callee (f := 90) rfl ?_); refine gl (some 29) Tryd.func90 #[] ?_; (with_reducible refine (Lw_Case.calls  t367 t370 t373 t374 _ A6.out).mono ?_); rintro e w48 ⟨v368, v371, rfl, ho0, ho1, hb⟩; refine ⟨_, rfl, ?_⟩; have HO369 := m0 (Kd.R_lower (Kd.R_new' (Kd.R_new' (Kd.R_new' (Kd.R_new' ho0 (Kd.R_lt (by (with_reducible repeat (first | apply Kd.R_alloc | apply Kd.R_drewN | apply Kd.R_drew)); exact (Kd.R_mono (Kd.R_far (p := ⟨gb366, 1, none⟩) (Kd.R_far (p := ⟨gb366, 0, none⟩) (Kd.R_types HO343.out BK366.out (by decide)) (fun _ hk => hk.2) (.int .i64 t363)) (fun _ hk => hk.2) (.int .i64 t364)) (fun _ h_ => h_.1))))) (Kd.R_lt (by (with_reducible repeat (first | apply Kd.R_alloc | apply Kd.R_drewN | apply Kd.R_drew)); exact (Kd.R_mono (Kd.R_far (p := ⟨gb366, 1, none⟩) (Kd.R_far (p := ⟨gb366, 0, none⟩) (Kd.R_types HO350.out BK366.out (by decide)) (fun _ hk => hk.2) (.int .i64 t363)) (fun _ hk => hk.2) (.int .i64 t364)) (fun _ h_ => h_.1))))) (Kd.R_lt (by (with_reducible repeat (first | apply Kd.R_alloc | apply Kd.R_drewN | apply Kd.R_drew)); exact (Kd.R_mono (Kd.R_far (p := ⟨gb366, 1, none⟩) (Kd.R_far (p := ⟨gb366, 0, none⟩) (Kd.R_types HO357.out BK366.out (by decide)) (fun _ hk => hk.2) (.int .i64 t363)) (fun _ hk => hk.2) (.int .i64 t364)) (fun _ h_ => h_.1))))) (Kd.R_lt (by (with_reducible repeat (first | apply Kd.R_alloc | apply Kd.R_drewN | apply Kd.R_drew)); exact (Kd.R_mono (Kd.R_far (p := ⟨gb366, 1, none⟩) (Kd.R_far (p := ⟨gb366, 0, none⟩) (Kd.R_types HO360.out BK366.out (by decide)) (fun _ hk => hk.2) (.int .i64 t363)) (fun _ hk => hk.2) (.int .i64 t364)) (fun _ h_ => h_.1))))) (below_size bz)); have HO372 := m0 (Kd.R_lower (Kd.R_new' (Kd.R_new' (Kd.R_new' (Kd.R_new' ho1 (Kd.R_lt (by (with_reducible repeat (first | apply Kd.R_alloc | apply Kd.R_drewN | apply Kd.R_drew)); exact (Kd.R_mono (Kd.R_far (p := ⟨gb366, 1, none⟩) (Kd.R_far (p := ⟨gb366, 0, none⟩) (Kd.R_types HO343.out BK366.out (by decide)) (fun _ hk => hk.2) (.int .i64 t363)) (fun _ hk => hk.2) (.int .i64 t364)) (fun _ h_ => h_.1))))) (Kd.R_lt (by (with_reducible repeat (first | apply Kd.R_alloc | apply Kd.R_drewN | apply Kd.R_drew)); exact (Kd.R_mono (Kd.R_far (p := ⟨gb366, 1, none⟩) (Kd.R_far (p := ⟨gb366, 0, none⟩) (Kd.R_types HO350.out BK366.out (by decide)) (fun _ hk => hk.2) (.int .i64 t363)) (fun _ hk => hk.2) (.int .i64 t364)) (fun _ h_ => h_.1))))) (Kd.R_lt (by (with_reducible repeat (first | apply Kd.R_alloc | apply Kd.R_drewN | apply Kd.R_drew)); exact (Kd.R_mono (Kd.R_far (p := ⟨gb366, 1, none⟩) (Kd.R_far (p := ⟨gb366, 0, none⟩) (Kd.R_types HO357.out BK366.out (by decide)) (fun _ hk => hk.2) (.int .i64 t363)) (fun _ hk => hk.2) (.int .i64 t364)) (fun _ h_ => h_.1))))) (Kd.R_lt (by (with_reducible repeat (first | apply Kd.R_alloc | apply Kd.R_drewN | apply Kd.R_drew)); exact (Kd.R_mono (Kd.R_far (p := ⟨gb366, 1, none⟩) (Kd.R_far (p := ⟨gb366, 0, none⟩) (Kd.R_types HO360.out BK366.out (by decide)) (fun _ hk => hk.2) (.int .i64 t363)) (fun _ hk => hk.2) (.int .i64 t364)) (fun _ h_ => h_.1))))) (below_size bz)); replace HO343 := m0 (Kd.R_mono (Kd.R_told (Kd.R_told (Kd.R_old (by (with_reducible repeat (first | apply Kd.R_alloc | apply Kd.R_drewN | apply Kd.R_drew)); exact (Kd.R_mono (Kd.R_far (p := ⟨gb366, 1, none⟩) (Kd.R_far (p := ⟨gb366, 0, none⟩) (Kd.R_types HO343.out BK366.out (by decide)) (fun _ hk => hk.2) (.int .i64 t363)) (fun _ hk => hk.2) (.int .i64 t364)) (fun _ h_ => h_.1))) hb) (Kd.R_base ho0)) (Kd.R_base ho1)) (fun _ h_ => h_.1)); replace HO350 := m0 (Kd.R_mono (Kd.R_told (Kd.R_told (Kd.R_old (by (with_reducible repeat (first | apply Kd.R_alloc | apply Kd.R_drewN | apply Kd.R_drew)); exact (Kd.R_mono (Kd.R_far (p := ⟨gb366, 1, none⟩) (Kd.R_far (p := ⟨gb366, 0, none⟩) (Kd.R_types HO350.out BK366.out (by decide)) (fun _ hk => hk.2) (.int .i64 t363)) (fun _ hk => hk.2) (.int .i64 t364)) (fun _ h_ => h_.1))) hb) (Kd.R_base ho0)) (Kd.R_base ho1)) (fun _ h_ => h_.1)); replace HO357 := m0 (Kd.R_mono (Kd.R_told (Kd.R_told (Kd.R_old (by (with_reducible repeat (first | apply Kd.R_alloc | apply Kd.R_drewN | apply Kd.R_drew)); exact (Kd.R_mono (Kd.R_far (p := ⟨gb366, 1, none⟩) (Kd.R_far (p := ⟨gb366, 0, none⟩) (Kd.R_types HO357.out BK366.out (by decide)) (fun _ hk => hk.2) (.int .i64 t363)) (fun _ hk => hk.2) (.int .i64 t364)) (fun _ h_ => h_.1))) hb) (Kd.R_base ho0)) (Kd.R_base ho1)) (fun _ h_ => h_.1)); replace HO360 := m0 (Kd.R_mono (Kd.R_told (Kd.R_told (Kd.R_old (by (with_reducible repeat (first | apply Kd.R_alloc | apply Kd.R_drewN | apply Kd.R_drew)); exact (Kd.R_mono (Kd.R_far (p := ⟨gb366, 1, none⟩) (Kd.R_far (p := ⟨gb366, 0, none⟩) (Kd.R_types HO360.out BK366.out (by decide)) (fun _ hk => hk.2) (.int .i64 t363)) (fun _ hk => hk.2) (.int .i64 t364)) (fun _ h_ => h_.1))) hb) (Kd.R_base ho0)) (Kd.R_base ho1)) (fun _ h_ => h_.1)); replace BK347 := m0 (blk_below (g := gb347) (o := .cells #[.int .i64 t344, .int .i64 t345] 26 (0, 0)) (bq BK347.out) hb); replace BK354 := m0 (blk_below (g := gb354) (o := .cells #[.int .i64 t351, .int .i64 t352] 26 (0, 0)) (bq BK354.out) hb); replace BK366 := m0 (blk_below (g := gb366) (o := .cells #[.int .i64 t363, .int .i64 t364] 26 (0, 0)) (bq BK366.out) hb); replace HB := sb HB hb; (try clear hb); (try clear ho0); (try clear ho1); obtain ⟨Ao49, co49, eo49⟩ := Kd.R_slice HO369.out; subst eo49; obtain ⟨Ao50, co50, eo50⟩ := Kd.R_slice HO372.out; subst eo50) | ((with_reducible refine gate_callee (f := 22) rfl ?_); refine gl (some 30) Tryd.func22 #[.agg #[.slice Ao49 t367.length co49, .slice Ao50 t370.length co50, .int .i64 t373, .int .i64 t374], .int .i64 1] ?_; (with_reducible refine (L_WorstOf.calls k _ _ t367 _ _ t370 t373 t374 1 t375 t376 t377 t378 _ ?side1 ?side2 ?side3 ?side4 ?side5 A7.out).mono ?_); (case side1 => exact bc (Kd.R_reads' HO369.out).2.2); (case side2 => exact (Kd.R_reads' HO369.out).2.1); (case side3 => exact bc (Kd.R_reads' HO372.out).2.2); (case side4 => exact (Kd.R_reads' HO372.out).2.1); (case side5 => exact EstG.below HG.out bz); rintro e w51 ⟨rfl, hb⟩; refine ⟨_, rfl, ?_⟩; replace HO343 := rb HO343 hb; replace HO350 := rb HO350 hb; replace HO357 := rb HO357 hb; replace HO360 := rb HO360 hb; replace HO369 := rb HO369 hb; replace HO372 := rb HO372 hb; replace BK347 := bb BK347 hb; replace BK354 := bb BK354 hb; replace BK366 := bb BK366 hb; replace HB := sb HB hb; (try clear hb)) | ((with_reducible refine gate_dst (N := 7) rfl ?_); (try (refine gate_guard (by rfl) ?_; dsimp only)); refine be 7 36 #[.int .i64 0, .int .i64 0, .int .i64 0] ?_; intro gb379 hg w52 hbox hb; replace HO343 := rb HO343 hb; replace HO350 := rb HO350 hb; replace HO357 := rb HO357 hb; replace HO360 := rb HO360 hb; replace HO369 := rb HO369 hb; replace HO372 := rb HO372 hb; have BK379 := m0 hbox; have GE379 := gw w hg; replace HB := sb HB hb; have NB347_379 := nl BK347 hg; have NB379_347 := ng (nl BK347 hg); replace BK347 := bb BK347 hb; have NB354_379 := nl BK354 hg; have NB379_354 := ng (nl BK354 hg); replace BK354 := bb BK354 hb; have NB366_379 := nl BK366 hg; have NB379_366 := ng (nl BK366 hg); replace BK366 := bb BK366 hb; clear hb hbox hg; have hnb53 := NB379_347.out; have hnc53 := NB347_379.out; have hnb54 := NB379_354.out; have hnc54 := NB354_379.out; have hnb55 := NB379_366.out; have hnc55 := NB366_379.out; obtain ⟨_, _, _, _, _, _⟩ := b3 BK379) | ((with_reducible refine gate_dst (N := 34) rfl ?_); (try (refine gate_guard (by rfl) ?_; dsimp only)); refine Kd.R_lit (Kd.int .i64) _ 3 ?hg (N := 34) ?hd (xs := ([0, 5, 5, 1, 3] : List Int)) (inner := [.int .i64 0, .int .i64 5, .int .i64 5, .int .i64 1, .int .i64 3]) (ok := fun _ => True) (okp := fun _ => True) ?hr ?hp (fun _ hk => hk) trivial (Below.refl _ _) (Nat.le_refl _) (by simp) ?_; (case hd => rfl); (case hg => rfl); (case hr => first | (go_simp; done) | (go_simp; rfl)); (case hp => exact (Reps.one (show Kd.M (Kd.int .i64) _ _ _ 0 [.int .i64 0] from rfl) (Reps.one (show Kd.M (Kd.int .i64) _ _ _ 5 [.int .i64 5] from rfl) (Reps.one (show Kd.M (Kd.int .i64) _ _ _ 5 [.int .i64 5] from rfl) (Reps.one (show Kd.M (Kd.int .i64) _ _ _ 1 [.int .i64 1] from rfl) (Reps.one (show Kd.M (Kd.int .i64) _ _ _ 3 [.int .i64 3] from rfl) (Reps.none _ _))))))); intro v381 w57 ho58 hb hg_ hnew_; clear hg_ hnew_; (first | rw [← Ny380.out] at ho58 | (simp only [Int.reduceToNat] at ho58; rw [← Ny380.out] at ho58)); have HO382 := m0 (Kd.R_lower (Kd.R_new' (Kd.R_new' (Kd.R_new' (Kd.R_new' (Kd.R_new' (Kd.R_new' ho58 (Kd.R_lt (by (with_reducible repeat (first | apply Kd.R_alloc | apply Kd.R_drewN | apply Kd.R_drew)); exact (Kd.R_mono (Kd.R_far (p := ⟨gb379, 2, none⟩) (Kd.R_far (p := ⟨gb379, 1, none⟩) (Kd.R_far (p := ⟨gb379, 0, none⟩) (Kd.R_types HO343.out BK379.out (by decide)) (fun _ hk => hk.2) (.int .i64 t375)) (fun _ hk => hk.2) (.int .i64 t376)) (fun _ hk => hk.2) (.int .i64 t377)) (fun _ h_ => h_.1))))) (Kd.R_lt (by (with_reducible repeat (first | apply Kd.R_alloc | apply Kd.R_drewN | apply Kd.R_drew)); exact (Kd.R_mono (Kd.R_far (p := ⟨gb379, 2, none⟩) (Kd.R_far (p := ⟨gb379, 1, none⟩) (Kd.R_far (p := ⟨gb379, 0, none⟩) (Kd.R_types HO350.out BK379.out (by decide)) (fun _ hk => hk.2) (.int .i64 t375)) (fun _ hk => hk.2) (.int .i64 t376)) (fun _ hk => hk.2) (.int .i64 t377)) (fun _ h_ => h_.1))))) (Kd.R_lt (by (with_reducible repeat (first | apply Kd.R_alloc | apply Kd.R_drewN | apply Kd.R_drew)); exact (Kd.R_mono (Kd.R_far (p := ⟨gb379, 2, none⟩) (Kd.R_far (p := ⟨gb379, 1, none⟩) (Kd.R_far (p := ⟨gb379, 0, none⟩) (Kd.R_types HO357.out BK379.out (by decide)) (fun _ hk => hk.2) (.int .i64 t375)) (fun _ hk => hk.2) (.int .i64 t376)) (fun _ hk => hk.2) (.int .i64 t377)) (fun _ h_ => h_.1))))) (Kd.R_lt (by (with_reducible repeat (first | apply Kd.R_alloc | apply Kd.R_drewN | apply Kd.R_drew)); exact (Kd.R_mono (Kd.R_far (p := ⟨gb379, 2, none⟩) (Kd.R_far (p := ⟨gb379, 1, none⟩) (Kd.R_far (p := ⟨gb379, 0, none⟩) (Kd.R_types HO360.out BK379.out (by decide)) (fun _ hk => hk.2) (.int .i64 t375)) (fun _ hk => hk.2) (.int .i64 t376)) (fun _ hk => hk.2) (.int .i64 t377)) (fun _ h_ => h_.1))))) (Kd.R_lt (by (with_reducible repeat (first | apply Kd.R_alloc | apply Kd.R_drewN | apply Kd.R_drew)); exact (Kd.R_mono (Kd.R_far (p := ⟨gb379, 2, none⟩) (Kd.R_far (p := ⟨gb379, 1, none⟩) (Kd.R_far (p := ⟨gb379, 0, none⟩) (Kd.R_types HO369.out BK379.out (by decide)) (fun _ hk => hk.2) (.int .i64 t375)) (fun _ hk => hk.2) (.int .i64 t376)) (fun _ hk => hk.2) (.int .i64 t377)) (fun _ h_ => h_.1))))) (Kd.R_lt (by (with_reducible repeat (first | apply Kd.R_alloc | apply Kd.R_drewN | apply Kd.R_drew)); exact (Kd.R_mono (Kd.R_far (p := ⟨gb379, 2, none⟩) (Kd.R_far (p := ⟨gb379, 1, none⟩) (Kd.R_far (p := ⟨gb379, 0, none⟩) (Kd.R_types HO372.out BK379.out (by decide)) (fun _ hk => hk.2) (.int .i64 t375)) (fun _ hk => hk.2) (.int .i64 t376)) (fun _ hk => hk.2) (.int .i64 t377)) (fun _ h_ => h_.1))))) (below_size bz)); replace HO343 := m0 (Kd.R_elder' (by (with_reducible repeat (first | apply Kd.R_alloc | apply Kd.R_drewN | apply Kd.R_drew)); exact (Kd.R_mono (Kd.R_far (p := ⟨gb379, 2, none⟩) (Kd.R_far (p := ⟨gb379, 1, none⟩) (Kd.R_far (p := ⟨gb379, 0, none⟩) (Kd.R_types HO343.out BK379.out (by decide)) (fun _ hk => hk.2) (.int .i64 t375)) (fun _ hk => hk.2) (.int .i64 t376)) (fun _ hk => hk.2) (.int .i64 t377)) (fun _ h_ => h_.1))) (Kd.R_base ho58) hb); replace HO350 := m0 (Kd.R_elder' (by (with_reducible repeat (first | apply Kd.R_alloc | apply Kd.R_drewN | apply Kd.R_drew)); exact (Kd.R_mono (Kd.R_far (p := ⟨gb379, 2, none⟩) (Kd.R_far (p := ⟨gb379, 1, none⟩) (Kd.R_far (p := ⟨gb379, 0, none⟩) (Kd.R_types HO350.out BK379.out (by decide)) (fun _ hk => hk.2) (.int .i64 t375)) (fun _ hk => hk.2) (.int .i64 t376)) (fun _ hk => hk.2) (.int .i64 t377)) (fun _ h_ => h_.1))) (Kd.R_base ho58) hb); replace HO357 := m0 (Kd.R_elder' (by (with_reducible repeat (first | apply Kd.R_alloc | apply Kd.R_drewN | apply Kd.R_drew)); exact (Kd.R_mono (Kd.R_far (p := ⟨gb379, 2, none⟩) (Kd.R_far (p := ⟨gb379, 1, none⟩) (Kd.R_far (p := ⟨gb379, 0, none⟩) (Kd.R_types HO357.out BK379.out (by decide)) (fun _ hk => hk.2) (.int .i64 t375)) (fun _ hk => hk.2) (.int .i64 t376)) (fun _ hk => hk.2) (.int .i64 t377)) (fun _ h_ => h_.1))) (Kd.R_base ho58) hb); replace HO360 := m0 (Kd.R_elder' (by (with_reducible repeat (first | apply Kd.R_alloc | apply Kd.R_drewN | apply Kd.R_drew)); exact (Kd.R_mono (Kd.R_far (p := ⟨gb379, 2, none⟩) (Kd.R_far (p := ⟨gb379, 1, none⟩) (Kd.R_far (p := ⟨gb379, 0, none⟩) (Kd.R_types HO360.out BK379.out (by decide)) (fun _ hk => hk.2) (.int .i64 t375)) (fun _ hk => hk.2) (.int .i64 t376)) (fun _ hk => hk.2) (.int .i64 t377)) (fun _ h_ => h_.1))) (Kd.R_base ho58) hb); replace HO369 := m0 (Kd.R_elder' (by (with_reducible repeat (first | apply Kd.R_alloc | apply Kd.R_drewN | apply Kd.R_drew)); exact (Kd.R_mono (Kd.R_far (p := ⟨gb379, 2, none⟩) (Kd.R_far (p := ⟨gb379, 1, none⟩) (Kd.R_far (p := ⟨gb379, 0, none⟩) (Kd.R_types HO369.out BK379.out (by decide)) (fun _ hk => hk.2) (.int .i64 t375)) (fun _ hk => hk.2) (.int .i64 t376)) (fun _ hk => hk.2) (.int .i64 t377)) (fun _ h_ => h_.1))) (Kd.R_base ho58) hb); replace HO372 := m0 (Kd.R_elder' (by (with_reducible repeat (first | apply Kd.R_alloc | apply Kd.R_drewN | apply Kd.R_drew)); exact (Kd.R_mono (Kd.R_far (p := ⟨gb379, 2, none⟩) (Kd.R_far (p := ⟨gb379, 1, none⟩) (Kd.R_far (p := ⟨gb379, 0, none⟩) (Kd.R_types HO372.out BK379.out (by decide)) (fun _ hk => hk.2) (.int .i64 t375)) (fun _ hk => hk.2) (.int .i64 t376)) (fun _ hk => hk.2) (.int .i64 t377)) (fun _ h_ => h_.1))) (Kd.R_base ho58) hb); replace BK347 := m0 (blk_below (g := gb347) (o := .cells #[.int .i64 t344, .int .i64 t345] 26 (0, 0)) (bq BK347.out) hb); replace BK354 := m0 (blk_below (g := gb354) (o := .cells #[.int .i64 t351, .int .i64 t352] 26 (0, 0)) (bq BK354.out) hb); replace BK366 := m0 (blk_below (g := gb366) (o := .cells #[.int .i64 t363, .int .i64 t364] 26 (0, 0)) (bq BK366.out) hb); replace BK379 := m0 (blk_below (g := gb379) (o := .cells #[.int .i64 t375, .int .i64 t376, .int .i64 t377] 36 (0, 0)) (bq BK379.out) hb); replace HB := sb HB hb; clear hb ho58; obtain ⟨Ao59, co59, eo59⟩ := Kd.R_slice HO382.out; subst eo59) | ((with_reducible refine gate_callee (f := 43) rfl ?_); refine gl (some 36) Tryd.func43 #[.slice Ao59 y380.length co59, .agg #[.int .i64 3, .int .i64 1]] ?_; (with_reducible refine (L_DetectionsIn.calls k _ _ y380 3 1 t383 t386 _ ?side1 ?side2 A8.out).mono ?_); (case side1 => exact bc (Kd.R_reads' HO382.out).2.2); (case side2 => exact (Kd.R_reads' HO382.out).2.1); rintro e w60 ⟨v384, rfl, ho0, hb⟩; refine ⟨_, rfl, ?_⟩; have HO385 := m0 (Kd.R_lower (Kd.R_new' (Kd.R_new' (Kd.R_new' (Kd.R_new' (Kd.R_new' (Kd.R_new' (Kd.R_new' ho0 (Kd.R_lt (br HO343.out))) (Kd.R_lt (br HO350.out))) (Kd.R_lt (br HO357.out))) (Kd.R_lt (br HO360.out))) (Kd.R_lt (br HO369.out))) (Kd.R_lt (br HO372.out))) (Kd.R_lt (br HO382.out))) (below_size bz)); replace HO343 := m0 (Kd.R_elder' (br HO343.out) (Kd.R_base ho0) hb); replace HO350 := m0 (Kd.R_elder' (br HO350.out) (Kd.R_base ho0) hb); replace HO357 := m0 (Kd.R_elder' (br HO357.out) (Kd.R_base ho0) hb); replace HO360 := m0 (Kd.R_elder' (br HO360.out) (Kd.R_base ho0) hb); replace HO369 := m0 (Kd.R_elder' (br HO369.out) (Kd.R_base ho0) hb); replace HO372 := m0 (Kd.R_elder' (br HO372.out) (Kd.R_base ho0) hb); replace HO382 := m0 (Kd.R_elder' (br HO382.out) (Kd.R_base ho0) hb); replace BK347 := bb BK347 hb; replace BK354 := bb BK354 hb; replace BK366 := bb BK366 hb; replace BK379 := bb BK379 hb; replace HB := sb HB hb; (try clear hb); (try clear ho0)) | ((with_reducible refine gate_callee (f := 41) rfl ?_); refine gl (some 40) Tryd.func41 #[.int .i64 11, .int .i64 10] ?_; (with_reducible refine (Bs_Lowest.calls k 11 10 t387 t388 _ A9.out).mono ?_); rintro e w61 ⟨rfl, hb⟩; refine ⟨_, rfl, ?_⟩; replace HO343 := rb HO343 hb; replace HO350 := rb HO350 hb; replace HO357 := rb HO357 hb; replace HO360 := rb HO360 hb; replace HO369 := rb HO369 hb; replace HO372 := rb HO372 hb; replace HO382 := rb HO382 hb; replace HO385 := rb HO385 hb; replace BK347 := bb BK347 hb; replace BK354 := bb BK354 hb; replace BK366 := bb BK366 hb; replace BK379 := bb BK379 hb; replace HB := sb HB hb; (try clear hb)) | ((with_reducible refine gate_callee (f := 45) rfl ?_); refine gl (some 42) Tryd.func45 #[.agg #[.int .i64 t387, .int .i64 t388], .agg #[.int .i64 2, .int .i64 50, .int .i64 1]] ?_; (with_reducible refine (L_SpeedAt.calls k t387 t388 2 50 1 t389 t390 t391 _ A10.out).mono ?_); rintro e w62 ⟨rfl, hb⟩; refine ⟨_, rfl, ?_⟩; replace HO343 := rb HO343 hb; replace HO350 := rb HO350 hb; replace HO357 := rb HO357 hb; replace HO360 := rb HO360 hb; replace HO369 := rb HO369 hb; replace HO372 := rb HO372 hb; replace HO382 := rb HO382 hb; replace HO385 := rb HO385 hb; replace BK347 := bb BK347 hb; replace BK354 := bb BK354 hb; replace BK366 := bb BK366 hb; replace BK379 := bb BK379 hb; replace HB := sb HB hb; (try clear hb)) | ((with_reducible refine gate_dst (N := 11) rfl ?_); (try (refine gate_guard (by rfl) ?_; dsimp only)); refine be 11 26 #[.int .i64 0, .int .i64 0] ?_; intro gb392 hg w63 hbox hb; replace HO343 := rb HO343 hb; replace HO350 := rb HO350 hb; replace HO357 := rb HO357 hb; replace HO360 := rb HO360 hb; replace HO369 := rb HO369 hb; replace HO372 := rb HO372 hb; replace HO382 := rb HO382 hb; replace HO385 := rb HO385 hb; have BK392 := m0 hbox; have GE392 := gw w hg; replace HB := sb HB hb; have NB347_392 := nl BK347 hg; have NB392_347 := ng (nl BK347 hg); replace BK347 := bb BK347 hb; have NB354_392 := nl BK354 hg; have NB392_354 := ng (nl BK354 hg); replace BK354 := bb BK354 hb; have NB366_392 := nl BK366 hg; have NB392_366 := ng (nl BK366 hg); replace BK366 := bb BK366 hb; have NB379_392 := nl BK379 hg; have NB392_379 := ng (nl BK379 hg); replace BK379 := bb BK379 hb; clear hb hbox hg; have hnb64 := NB392_347.out; have hnc64 := NB347_392.out; have hnb65 := NB392_354.out; have hnc65 := NB354_392.out; have hnb66 := NB392_366.out; have hnc66 := NB366_392.out; have hnb67 := NB392_379.out; have hnc67 := NB379_392.out; obtain ⟨_, _, _, _⟩ := b2 BK392))
            replace HO343 : Aside0 (Kd.R (Kd.int .i64) 3 ((w63.setCell ⟨gb392, 0, none⟩ (.int .i64 t389)).setCell ⟨gb392, 1, none⟩ (.int .i64 t390)) w.heap.size (fun k_ => some k_ ≠ (.slice Ao35 t348.length co35 : Value).ownBlock ∧ some k_ ≠ (.slice Ao41 t355.length co41 : Value).ownBlock ∧ some k_ ≠ (.slice Ao42 t358.length co42 : Value).ownBlock ∧ some k_ ≠ (.slice Ao49 t367.length co49 : Value).ownBlock ∧ some k_ ≠ (.slice Ao50 t370.length co50 : Value).ownBlock ∧ some k_ ≠ (.slice Ao59 y380.length co59 : Value).ownBlock ∧ some k_ ≠ (v384 : Value).ownBlock) (.slice Ao30 y341.length co30) y341) := ⟨by (with_reducible repeat (first | apply Kd.R_alloc | apply Kd.R_drewN | apply Kd.R_drew)); exact Kd.R_mono (Kd.R_far (p := ⟨gb392, 1, none⟩) (Kd.R_far (p := ⟨gb392, 0, none⟩) (Kd.R_types HO343.out BK392.out (by decide)) (fun _ hk => hk.2) (.int .i64 t389)) (fun _ hk => hk.2) (.int .i64 t390)) (fun _ hk => ⟨hk.1.1.1.1.1.1.1.2, ⟨hk.1.1.1.1.1.1.2, ⟨hk.1.1.1.1.1.2, ⟨hk.1.1.1.1.2, ⟨hk.1.1.1.2, ⟨hk.1.1.2, hk.1.2⟩⟩⟩⟩⟩⟩)⟩
            replace HO350 : Aside0 (Kd.R (Kd.int .i64) 3 ((w63.setCell ⟨gb392, 0, none⟩ (.int .i64 t389)).setCell ⟨gb392, 1, none⟩ (.int .i64 t390)) w.heap.size (fun k_ => some k_ ≠ (.slice Ao30 y341.length co30 : Value).ownBlock ∧ some k_ ≠ (.slice Ao41 t355.length co41 : Value).ownBlock ∧ some k_ ≠ (.slice Ao42 t358.length co42 : Value).ownBlock ∧ some k_ ≠ (.slice Ao49 t367.length co49 : Value).ownBlock ∧ some k_ ≠ (.slice Ao50 t370.length co50 : Value).ownBlock ∧ some k_ ≠ (.slice Ao59 y380.length co59 : Value).ownBlock ∧ some k_ ≠ (v384 : Value).ownBlock) (.slice Ao35 t348.length co35) t348) := ⟨by (with_reducible repeat (first | apply Kd.R_alloc | apply Kd.R_drewN | apply Kd.R_drew)); exact Kd.R_mono (Kd.R_far (p := ⟨gb392, 1, none⟩) (Kd.R_far (p := ⟨gb392, 0, none⟩) (Kd.R_types HO350.out BK392.out (by decide)) (fun _ hk => hk.2) (.int .i64 t389)) (fun _ hk => hk.2) (.int .i64 t390)) (fun _ hk => ⟨hk.1.1.1.1.1.1.1.2, ⟨hk.1.1.1.1.1.1.2, ⟨hk.1.1.1.1.1.2, ⟨hk.1.1.1.1.2, ⟨hk.1.1.1.2, ⟨hk.1.1.2, hk.1.2⟩⟩⟩⟩⟩⟩)⟩
            replace HO357 : Aside0 (Kd.R (Kd.int .i64) 3 ((w63.setCell ⟨gb392, 0, none⟩ (.int .i64 t389)).setCell ⟨gb392, 1, none⟩ (.int .i64 t390)) w.heap.size (fun k_ => some k_ ≠ (.slice Ao30 y341.length co30 : Value).ownBlock ∧ some k_ ≠ (.slice Ao35 t348.length co35 : Value).ownBlock ∧ some k_ ≠ (.slice Ao42 t358.length co42 : Value).ownBlock ∧ some k_ ≠ (.slice Ao49 t367.length co49 : Value).ownBlock ∧ some k_ ≠ (.slice Ao50 t370.length co50 : Value).ownBlock ∧ some k_ ≠ (.slice Ao59 y380.length co59 : Value).ownBlock ∧ some k_ ≠ (v384 : Value).ownBlock) (.slice Ao41 t355.length co41) t355) := ⟨by (with_reducible repeat (first | apply Kd.R_alloc | apply Kd.R_drewN | apply Kd.R_drew)); exact Kd.R_mono (Kd.R_far (p := ⟨gb392, 1, none⟩) (Kd.R_far (p := ⟨gb392, 0, none⟩) (Kd.R_types HO357.out BK392.out (by decide)) (fun _ hk => hk.2) (.int .i64 t389)) (fun _ hk => hk.2) (.int .i64 t390)) (fun _ hk => ⟨hk.1.1.1.1.1.1.2, ⟨hk.1.1.1.1.1.2, ⟨hk.1.1.1.1.1.1.1, ⟨hk.1.1.1.1.2, ⟨hk.1.1.1.2, ⟨hk.1.1.2, hk.1.2⟩⟩⟩⟩⟩⟩)⟩
            replace HO360 : Aside0 (Kd.R (Kd.int .i64) 3 ((w63.setCell ⟨gb392, 0, none⟩ (.int .i64 t389)).setCell ⟨gb392, 1, none⟩ (.int .i64 t390)) w.heap.size (fun k_ => some k_ ≠ (.slice Ao30 y341.length co30 : Value).ownBlock ∧ some k_ ≠ (.slice Ao35 t348.length co35 : Value).ownBlock ∧ some k_ ≠ (.slice Ao41 t355.length co41 : Value).ownBlock ∧ some k_ ≠ (.slice Ao49 t367.length co49 : Value).ownBlock ∧ some k_ ≠ (.slice Ao50 t370.length co50 : Value).ownBlock ∧ some k_ ≠ (.slice Ao59 y380.length co59 : Value).ownBlock ∧ some k_ ≠ (v384 : Value).ownBlock) (.slice Ao42 t358.length co42) t358) := ⟨by (with_reducible repeat (first | apply Kd.R_alloc | apply Kd.R_drewN | apply Kd.R_drew)); exact Kd.R_mono (Kd.R_far (p := ⟨gb392, 1, none⟩) (Kd.R_far (p := ⟨gb392, 0, none⟩) (Kd.R_types HO360.out BK392.out (by decide)) (fun _ hk => hk.2) (.int .i64 t389)) (fun _ hk => hk.2) (.int .i64 t390)) (fun _ hk => ⟨hk.1.1.1.1.1.1.2, ⟨hk.1.1.1.1.1.2, ⟨hk.1.1.1.1.1.1.1, ⟨hk.1.1.1.1.2, ⟨hk.1.1.1.2, ⟨hk.1.1.2, hk.1.2⟩⟩⟩⟩⟩⟩)⟩
            replace HO369 : Aside0 (Kd.R (Kd.int .i64) 3 ((w63.setCell ⟨gb392, 0, none⟩ (.int .i64 t389)).setCell ⟨gb392, 1, none⟩ (.int .i64 t390)) w.heap.size (fun k_ => some k_ ≠ (.slice Ao30 y341.length co30 : Value).ownBlock ∧ some k_ ≠ (.slice Ao35 t348.length co35 : Value).ownBlock ∧ some k_ ≠ (.slice Ao41 t355.length co41 : Value).ownBlock ∧ some k_ ≠ (.slice Ao42 t358.length co42 : Value).ownBlock ∧ some k_ ≠ (.slice Ao50 t370.length co50 : Value).ownBlock ∧ some k_ ≠ (.slice Ao59 y380.length co59 : Value).ownBlock ∧ some k_ ≠ (v384 : Value).ownBlock) (.slice Ao49 t367.length co49) t367) := ⟨by (with_reducible repeat (first | apply Kd.R_alloc | apply Kd.R_drewN | apply Kd.R_drew)); exact Kd.R_mono (Kd.R_far (p := ⟨gb392, 1, none⟩) (Kd.R_far (p := ⟨gb392, 0, none⟩) (Kd.R_types HO369.out BK392.out (by decide)) (fun _ hk => hk.2) (.int .i64 t389)) (fun _ hk => hk.2) (.int .i64 t390)) (fun _ hk => ⟨hk.1.1.1.1.1.1.2, ⟨hk.1.1.1.1.1.2, ⟨hk.1.1.1.1.2, ⟨hk.1.1.1.2, ⟨hk.1.1.1.1.1.1.1, ⟨hk.1.1.2, hk.1.2⟩⟩⟩⟩⟩⟩)⟩
            replace HO372 : Aside0 (Kd.R (Kd.int .i64) 3 ((w63.setCell ⟨gb392, 0, none⟩ (.int .i64 t389)).setCell ⟨gb392, 1, none⟩ (.int .i64 t390)) w.heap.size (fun k_ => some k_ ≠ (.slice Ao30 y341.length co30 : Value).ownBlock ∧ some k_ ≠ (.slice Ao35 t348.length co35 : Value).ownBlock ∧ some k_ ≠ (.slice Ao41 t355.length co41 : Value).ownBlock ∧ some k_ ≠ (.slice Ao42 t358.length co42 : Value).ownBlock ∧ some k_ ≠ (.slice Ao49 t367.length co49 : Value).ownBlock ∧ some k_ ≠ (.slice Ao59 y380.length co59 : Value).ownBlock ∧ some k_ ≠ (v384 : Value).ownBlock) (.slice Ao50 t370.length co50) t370) := ⟨by (with_reducible repeat (first | apply Kd.R_alloc | apply Kd.R_drewN | apply Kd.R_drew)); exact Kd.R_mono (Kd.R_far (p := ⟨gb392, 1, none⟩) (Kd.R_far (p := ⟨gb392, 0, none⟩) (Kd.R_types HO372.out BK392.out (by decide)) (fun _ hk => hk.2) (.int .i64 t389)) (fun _ hk => hk.2) (.int .i64 t390)) (fun _ hk => ⟨hk.1.1.1.1.1.1.2, ⟨hk.1.1.1.1.1.2, ⟨hk.1.1.1.1.2, ⟨hk.1.1.1.2, ⟨hk.1.1.1.1.1.1.1, ⟨hk.1.1.2, hk.1.2⟩⟩⟩⟩⟩⟩)⟩
            replace HO382 : Aside0 (Kd.R (Kd.int .i64) 3 ((w63.setCell ⟨gb392, 0, none⟩ (.int .i64 t389)).setCell ⟨gb392, 1, none⟩ (.int .i64 t390)) w.heap.size (fun k_ => some k_ ≠ (.slice Ao30 y341.length co30 : Value).ownBlock ∧ some k_ ≠ (.slice Ao35 t348.length co35 : Value).ownBlock ∧ some k_ ≠ (.slice Ao41 t355.length co41 : Value).ownBlock ∧ some k_ ≠ (.slice Ao42 t358.length co42 : Value).ownBlock ∧ some k_ ≠ (.slice Ao49 t367.length co49 : Value).ownBlock ∧ some k_ ≠ (.slice Ao50 t370.length co50 : Value).ownBlock ∧ some k_ ≠ (v384 : Value).ownBlock) (.slice Ao59 y380.length co59) y380) := ⟨by (with_reducible repeat (first | apply Kd.R_alloc | apply Kd.R_drewN | apply Kd.R_drew)); exact Kd.R_mono (Kd.R_far (p := ⟨gb392, 1, none⟩) (Kd.R_far (p := ⟨gb392, 0, none⟩) (Kd.R_types HO382.out BK392.out (by decide)) (fun _ hk => hk.2) (.int .i64 t389)) (fun _ hk => hk.2) (.int .i64 t390)) (fun _ hk => ⟨hk.1.1.1.1.1.1.1.2, ⟨hk.1.1.1.1.1.1.2, ⟨hk.1.1.1.1.1.2, ⟨hk.1.1.1.1.2, ⟨hk.1.1.1.2, ⟨hk.1.1.2, hk.1.2⟩⟩⟩⟩⟩⟩)⟩
            replace HO385 : Aside0 (Kd.R (Kd.int .i64) 3 ((w63.setCell ⟨gb392, 0, none⟩ (.int .i64 t389)).setCell ⟨gb392, 1, none⟩ (.int .i64 t390)) w.heap.size (fun k_ => some k_ ≠ (.slice Ao30 y341.length co30 : Value).ownBlock ∧ some k_ ≠ (.slice Ao35 t348.length co35 : Value).ownBlock ∧ some k_ ≠ (.slice Ao41 t355.length co41 : Value).ownBlock ∧ some k_ ≠ (.slice Ao42 t358.length co42 : Value).ownBlock ∧ some k_ ≠ (.slice Ao49 t367.length co49 : Value).ownBlock ∧ some k_ ≠ (.slice Ao50 t370.length co50 : Value).ownBlock ∧ some k_ ≠ (.slice Ao59 y380.length co59 : Value).ownBlock) v384 t383) := ⟨by (with_reducible repeat (first | apply Kd.R_alloc | apply Kd.R_drewN | apply Kd.R_drew)); exact Kd.R_mono (Kd.R_far (p := ⟨gb392, 1, none⟩) (Kd.R_far (p := ⟨gb392, 0, none⟩) (Kd.R_types HO385.out BK392.out (by decide)) (fun _ hk => hk.2) (.int .i64 t389)) (fun _ hk => hk.2) (.int .i64 t390)) (fun _ hk => ⟨hk.1.1.1.1.1.1.1.2, ⟨hk.1.1.1.1.1.1.2, ⟨hk.1.1.1.1.1.2, ⟨hk.1.1.1.1.2, ⟨hk.1.1.1.2, ⟨hk.1.1.2, hk.1.2⟩⟩⟩⟩⟩⟩)⟩
            replace BK347 : Aside0 (((w63.setCell ⟨gb392, 0, none⟩ (.int .i64 t389)).setCell ⟨gb392, 1, none⟩ (.int .i64 t390)).heap[gb347]? = some (.cells #[.int .i64 t344, .int .i64 t345] 26 (0, 0))) := ⟨bq BK347.out⟩
            replace BK354 : Aside0 (((w63.setCell ⟨gb392, 0, none⟩ (.int .i64 t389)).setCell ⟨gb392, 1, none⟩ (.int .i64 t390)).heap[gb354]? = some (.cells #[.int .i64 t351, .int .i64 t352] 26 (0, 0))) := ⟨bq BK354.out⟩
            replace BK366 : Aside0 (((w63.setCell ⟨gb392, 0, none⟩ (.int .i64 t389)).setCell ⟨gb392, 1, none⟩ (.int .i64 t390)).heap[gb366]? = some (.cells #[.int .i64 t363, .int .i64 t364] 26 (0, 0))) := ⟨bq BK366.out⟩
            replace BK379 : Aside0 (((w63.setCell ⟨gb392, 0, none⟩ (.int .i64 t389)).setCell ⟨gb392, 1, none⟩ (.int .i64 t390)).heap[gb379]? = some (.cells #[.int .i64 t375, .int .i64 t376, .int .i64 t377] 36 (0, 0))) := ⟨bq BK379.out⟩
            replace BK392 : Aside0 (((w63.setCell ⟨gb392, 0, none⟩ (.int .i64 t389)).setCell ⟨gb392, 1, none⟩ (.int .i64 t390)).heap[gb392]? = some (.cells #[.int .i64 t389, .int .i64 t390] 26 (0, 0))) := ⟨bq BK392.out⟩
            replace HB : Aside0 (Below w.heap.size w ((w63.setCell ⟨gb392, 0, none⟩ (.int .i64 t389)).setCell ⟨gb392, 1, none⟩ (.int .i64 t390))) := ⟨bz⟩
            generalize ((w63.setCell ⟨gb392, 0, none⟩ (.int .i64 t389)).setCell ⟨gb392, 1, none⟩ (.int .i64 t390)) = w69 at HO343 HO350 HO357 HO360 HO369 HO372 HO382 HO385 BK347 BK354 BK366 BK379 BK392 HB ⊢
            replace HO343 := m0 (Kd.R_drew HO343.out); replace HO350 := m0 (Kd.R_drew HO350.out); replace HO357 := m0 (Kd.R_drew HO357.out); replace HO360 := m0 (Kd.R_drew HO360.out); replace HO369 := m0 (Kd.R_drew HO369.out); replace HO372 := m0 (Kd.R_drew HO372.out); replace HO382 := m0 (Kd.R_drew HO382.out); replace HO385 := m0 (Kd.R_drew HO385.out); replace BK347 := bd BK347; replace BK354 := bd BK354; replace BK366 := bd BK366; replace BK379 := bd BK379; replace BK392 := bd BK392; replace HB := sd HB
            refine start_ (n := 54) (S := fun w' => w'.cell? ⟨gb347, 0, none⟩ = some (.int .i64 t344) ∧ w'.cell? ⟨gb347, 1, none⟩ = some (.int .i64 t345) ∧ w'.cell? ⟨gb354, 0, none⟩ = some (.int .i64 t351) ∧ w'.cell? ⟨gb354, 1, none⟩ = some (.int .i64 t352) ∧ w'.cell? ⟨gb366, 0, none⟩ = some (.int .i64 t363) ∧ w'.cell? ⟨gb366, 1, none⟩ = some (.int .i64 t364) ∧ w'.cell? ⟨gb379, 0, none⟩ = some (.int .i64 t375) ∧ w'.cell? ⟨gb379, 1, none⟩ = some (.int .i64 t376) ∧ w'.cell? ⟨gb379, 2, none⟩ = some (.int .i64 t377) ∧ w'.cell? ⟨gb392, 0, none⟩ = some (.int .i64 t389) ∧ w'.cell? ⟨gb392, 1, none⟩ = some (.int .i64 t390)) (ds := []) #[false, false, false, false, false, false, false, false, false, false, false, false, false, false, false, false, false, false, false, false, false, false, false, false, false, false, false, false, false, false, false, false, false, false, false, false, false, false, false, false, false, false, false, false, false, false, false, false, false, false, false, false, false, false] (by kernel_rfl) rfl rfl cz (fun hH => ?_); refine with_tabW Lw_awake.tab7 Lw_awake.bits7 (fun HT_ HW_ => ?_)
            generalize w69.drew = w70 at HO343 HO350 HO357 HO360 HO369 HO372 HO382 HO385 BK347 BK354 BK366 BK379 BK392 HB hH ⊢
            refine pZ 0 (some 45) (bs 54 1) HT_ ?_
            refine pZ 1 (some 46) (bs 54 3) HT_ ?_
            refine pZ 2 (some 47) (bs 54 7) HT_ ?_
            refine takeZ 3 (some 48) (bs 54 15) (take_ofW HT_.out HW_.out (by kernel_rfl)) hH ?_
            refine oneZ 4 (some 49) (bs 54 31) (one_of HT_.out (by kernel_rfl)) fun K hK => ?_
            refine gz Tryd.func41 #[.int .i64 11, .int .i64 10] ?_
            with_reducible refine (Bs_Lowest.calls k 11 10 t393 t394 _ A12.out).mono ?_
            rintro e w71 ⟨rfl, hb⟩
            refine ⟨_, rfl, ?_⟩
            replace HO343 := rb HO343 hb; replace HO350 := rb HO350 hb; replace HO357 := rb HO357 hb; replace HO360 := rb HO360 hb; replace HO369 := rb HO369 hb; replace HO372 := rb HO372 hb; replace HO382 := rb HO382 hb; replace HO385 := rb HO385 hb; replace BK347 := bb BK347 hb; replace BK354 := bb BK354 hb; replace BK366 := bb BK366 hb; replace BK379 := bb BK379 hb; replace BK392 := bb BK392 hb; replace HB := sb HB hb
            (try clear hb)
            refine hK.out _ _ cz (fun hH => ?_)
            clear hK K
            refine norm_ (a' := ?_) ?_ ?_
            rotate_left
            ·show Act.put _ (some 49) _ = _
             exact pz
            refine pZ 5 (some 50) (bs 54 63) HT_ ?_
            refine pZ 6 (some 51) (bs 54 127) HT_ ?_
            refine pZ 7 (some 52) (bs 54 255) HT_ ?_
            refine pZ 8 (some 53) (bs 54 511) HT_ ?_
            refine pZ 9 (some 54) (bs 54 1023) HT_ ?_
            refine pZ 10 (some 55) (bs 54 2047) HT_ ?_
            refine pZ 11 (some 56) (bs 54 4095) HT_ ?_
            refine takeZ 12 (some 57) (bs 54 8191) (take_ofW HT_.out HW_.out (by kernel_rfl)) hH ?_
            refine oneZ 13 (some 58) (bs 54 16383) (one_of HT_.out (by kernel_rfl)) fun K hK => ?_
            refine gz Tryd.func41 #[.int .i64 3, .int .i64 4] ?_
            with_reducible refine (Bs_Lowest.calls k 3 4 t395 t396 _ A15.out).mono ?_
            rintro e w72 ⟨rfl, hb⟩
            refine ⟨_, rfl, ?_⟩
            replace HO343 := rb HO343 hb; replace HO350 := rb HO350 hb; replace HO357 := rb HO357 hb; replace HO360 := rb HO360 hb; replace HO369 := rb HO369 hb; replace HO372 := rb HO372 hb; replace HO382 := rb HO382 hb; replace HO385 := rb HO385 hb; replace BK347 := bb BK347 hb; replace BK354 := bb BK354 hb; replace BK366 := bb BK366 hb; replace BK379 := bb BK379 hb; replace BK392 := bb BK392 hb; replace HB := sb HB hb
            (try clear hb)
            refine hK.out _ _ cz (fun hH => ?_)
            clear hK K
            refine norm_ (a' := ?_) ?_ ?_
            rotate_left
            ·show Act.put _ (some 58) _ = _
             exact pz
            refine pZ 14 (some 59) (bs 54 32767) HT_ ?_
            refine pZ 15 (some 60) (bs 54 65535) HT_ ?_
            refine pZ 16 (some 61) (bs 54 131071) HT_ ?_
            refine pZ 17 (some 62) (bs 54 262143) HT_ ?_
            refine pZ 18 (some 63) (bs 54 524287) HT_ ?_
            refine pZ 19 (some 64) (bs 54 1048575) HT_ ?_
            refine pZ 20 (some 65) (bs 54 2097151) HT_ ?_
            refine takeZ 21 (some 66) (bs 54 4194303) (take_ofW HT_.out HW_.out (by kernel_rfl)) hH ?_
            refine oneZ 22 (some 67) (bs 54 8388607) (one_of HT_.out (by kernel_rfl)) fun K hK => ?_
            refine gz Tryd.func41 #[.int .i64 1, .int .i64 4] ?_
            with_reducible refine (Bs_Lowest.calls k 1 4 t397 t398 _ A18.out).mono ?_
            rintro e w73 ⟨rfl, hb⟩
            refine ⟨_, rfl, ?_⟩
            replace HO343 := rb HO343 hb; replace HO350 := rb HO350 hb; replace HO357 := rb HO357 hb; replace HO360 := rb HO360 hb; replace HO369 := rb HO369 hb; replace HO372 := rb HO372 hb; replace HO382 := rb HO382 hb; replace HO385 := rb HO385 hb; replace BK347 := bb BK347 hb; replace BK354 := bb BK354 hb; replace BK366 := bb BK366 hb; replace BK379 := bb BK379 hb; replace BK392 := bb BK392 hb; replace HB := sb HB hb
            (try clear hb)
            refine hK.out _ _ cz (fun hH => ?_)
            clear hK K
            refine norm_ (a' := ?_) ?_ ?_
            rotate_left
            ·show Act.put _ (some 67) _ = _
             exact pz
            refine pZ 23 (some 68) (bs 54 16777215) HT_ ?_
            refine pZ 24 (some 69) (bs 54 33554431) HT_ ?_
            refine pZ 25 (some 70) (bs 54 67108863) HT_ ?_
            refine pZ 26 (some 71) (bs 54 134217727) HT_ ?_
            refine pZ 27 (some 72) (bs 54 268435455) HT_ ?_
            refine pZ 28 (some 73) (bs 54 536870911) HT_ ?_
            refine pZ 29 (some 74) (bs 54 1073741823) HT_ ?_
            refine takeZ 30 (some 75) (bs 54 2147483647) (take_ofW HT_.out HW_.out (by kernel_rfl)) hH ?_
            refine oneZ 31 (some 76) (bs 54 4294967295) (one_of HT_.out (by kernel_rfl)) fun K hK => ?_
            refine gz Tryd.func41 #[.int .i64 3, .int .i64 5] ?_
            with_reducible refine (Bs_Lowest.calls k 3 5 t399 t400 _ A21.out).mono ?_
            rintro e w74 ⟨rfl, hb⟩
            refine ⟨_, rfl, ?_⟩
            replace HO343 := rb HO343 hb; replace HO350 := rb HO350 hb; replace HO357 := rb HO357 hb; replace HO360 := rb HO360 hb; replace HO369 := rb HO369 hb; replace HO372 := rb HO372 hb; replace HO382 := rb HO382 hb; replace HO385 := rb HO385 hb; replace BK347 := bb BK347 hb; replace BK354 := bb BK354 hb; replace BK366 := bb BK366 hb; replace BK379 := bb BK379 hb; replace BK392 := bb BK392 hb; replace HB := sb HB hb
            (try clear hb)
            refine hK.out _ _ cz (fun hH => ?_)
            clear hK K
            refine norm_ (a' := ?_) ?_ ?_
            rotate_left
            ·show Act.put _ (some 76) _ = _
             exact pz
            refine pZ 32 (some 77) (bs 54 8589934591) HT_ ?_
            refine pZ 33 (some 78) (bs 54 17179869183) HT_ ?_
            refine pZ 34 (some 79) (bs 54 34359738367) HT_ ?_
            refine pZ 35 (some 80) (bs 54 68719476735) HT_ ?_
            refine pZ 36 (some 81) (bs 54 137438953471) HT_ ?_
            refine pZ 37 (some 82) (bs 54 274877906943) HT_ ?_
            refine pZ 38 (some 83) (bs 54 549755813887) HT_ ?_
            refine pZ 39 (some 84) (bs 54 1099511627775) HT_ ?_
            refine pZ 40 (some 85) (bs 54 2199023255551) HT_ ?_
            refine oneZ 41 (some 86) (bs 54 4398046511103) (one_of HT_.out (by kernel_rfl)) fun K hK => ?_
            refine Kd.R_lit_step (Kd.int .i64) _ 3 ?hg (N := 86) ?hd (xs := ([1, 4] : List Int)) (inner := [.int .i64 1, .int .i64 4]) (ok := fun _ => True) (okp := fun _ => True) ?hr ?hp (fun _ hk => hk) trivial (Below.refl _ _) (Nat.le_refl _) (by simp) ?_; (case hd => rfl); (case hg => rfl); (case hr => first | (go_simp; done) | (go_simp; rfl)); (case hp => exact (Reps.one (show Kd.M (Kd.int .i64) _ _ _ 1 [.int .i64 1] from rfl) (Reps.one (show Kd.M (Kd.int .i64) _ _ _ 4 [.int .i64 4] from rfl) (Reps.none _ _))))
            intro v402 w75 ho76 hb hg_ hnew_
            clear hg_ hnew_
            (first | rw [← Ny401.out] at ho76 | (simp only [Int.reduceToNat] at ho76; rw [← Ny401.out] at ho76))
            have HO403 := m0 (Kd.R_lower (Kd.R_new' (Kd.R_new' (Kd.R_new' (Kd.R_new' (Kd.R_new' (Kd.R_new' (Kd.R_new' (Kd.R_new' ho76 (Kd.R_lt (br HO343.out))) (Kd.R_lt (br HO350.out))) (Kd.R_lt (br HO357.out))) (Kd.R_lt (br HO360.out))) (Kd.R_lt (br HO369.out))) (Kd.R_lt (br HO372.out))) (Kd.R_lt (br HO382.out))) (Kd.R_lt (br HO385.out))) (below_size bz)); replace HO343 := m0 (Kd.R_elder' (br HO343.out) (Kd.R_base ho76) hb); replace HO350 := m0 (Kd.R_elder' (br HO350.out) (Kd.R_base ho76) hb); replace HO357 := m0 (Kd.R_elder' (br HO357.out) (Kd.R_base ho76) hb); replace HO360 := m0 (Kd.R_elder' (br HO360.out) (Kd.R_base ho76) hb); replace HO369 := m0 (Kd.R_elder' (br HO369.out) (Kd.R_base ho76) hb); replace HO372 := m0 (Kd.R_elder' (br HO372.out) (Kd.R_base ho76) hb); replace HO382 := m0 (Kd.R_elder' (br HO382.out) (Kd.R_base ho76) hb); replace HO385 := m0 (Kd.R_elder' (br HO385.out) (Kd.R_base ho76) hb); replace BK347 := bb BK347 hb; replace BK354 := bb BK354 hb; replace BK366 := bb BK366 hb; replace BK379 := bb BK379 hb; replace BK392 := bb BK392 hb; replace HB := sb HB hb
            clear hb ho76
            obtain ⟨Ao77, co77, eo77⟩ := Kd.R_slice HO385.out
            subst eo77
            obtain ⟨Ao78, co78, eo78⟩ := Kd.R_slice HO403.out
            subst eo78
            refine hK.out _ _ cz (fun hH => ?_)
            clear hK K
            refine norm_ (a' := ?_) ?_ ?_
            rotate_left
            ·show Act.put _ (some 86) _ = _
             exact pz
            refine oneZ 42 (some 87) (bs 54 8796093022207) (one_of HT_.out (by kernel_rfl)) fun K hK => ?_
            refine gz Tryd.func57 #[.slice Ao77 t383.length co77, .slice Ao78 y401.length co78] ?_
            with_reducible refine (Bs_Ints.calls k _ _ t383 _ _ y401 true _ ?side1 ?side2 ?side3 ?side4 A24.out).mono ?_
            (case side1 => exact bc (Kd.R_reads' HO385.out).2.2)
            (case side2 => exact (Kd.R_reads' HO385.out).2.1)
            (case side3 => exact bc (Kd.R_reads' HO403.out).2.2)
            (case side4 => exact (Kd.R_reads' HO403.out).2.1)
            rintro e w' ⟨rfl, ⟨nd, rfl⟩⟩
            refine ⟨_, rfl, ?_⟩
            refine hK.out _ _ cz (fun hH => ?_)
            clear hK K
            refine norm_ (a' := ?_) ?_ ?_
            rotate_left
            ·show Act.put _ (some 87) _ = _
             exact pz
            refine pZ 43 (some 88) (bs 54 17592186044415) HT_ ?_
            refine pZ 44 (some 89) (bs 54 35184372088831) HT_ ?_
            refine pZ 45 (some 90) (bs 54 70368744177663) HT_ ?_
            refine pZ 46 (some 91) (bs 54 140737488355327) HT_ ?_
            refine pZ 47 (some 92) (bs 54 281474976710655) HT_ ?_
            refine pZ 48 (some 93) (bs 54 562949953421311) HT_ ?_
            refine takeZ 49 (some 94) (bs 54 1125899906842623) (take_ofW HT_.out HW_.out (by kernel_rfl)) hH ?_
            refine oneZ 50 (some 95) (bs 54 2251799813685247) (one_of HT_.out (by kernel_rfl)) fun K hK => ?_
            refine gz Tryd.func38 #[.int .i64 (-45)] ?_
            with_reducible refine (Bs_Whole.calls (-45) t405 t406 _ A27.out).mono ?_
            rintro e w79 ⟨rfl, hb⟩
            refine ⟨_, rfl, ?_⟩
            replace HO343 := rb HO343 hb; replace HO350 := rb HO350 hb; replace HO357 := rb HO357 hb; replace HO360 := rb HO360 hb; replace HO369 := rb HO369 hb; replace HO372 := rb HO372 hb; replace HO382 := rb HO382 hb; replace HO385 := rb HO385 hb; replace HO403 := rb HO403 hb; replace BK347 := bb BK347 hb; replace BK354 := bb BK354 hb; replace BK366 := bb BK366 hb; replace BK379 := bb BK379 hb; replace BK392 := bb BK392 hb; replace HB := sb HB hb
            (try clear hb)
            refine hK.out _ _ cz (fun hH => ?_)
            clear hK K
            refine norm_ (a' := ?_) ?_ ?_
            rotate_left
            ·show Act.put _ (some 95) _ = _
             exact pz
            refine pZ 51 (some 96) (bs 54 4503599627370495) HT_ ?_
            refine pZ 52 (some 97) (bs 54 9007199254740991) HT_ ?_
            refine pZ 53 (some 0) (bs 54 18014398509481983) HT_ ?_
            refine done_ (done_of HT_.out (by kernel_rfl)) ?_
            try go_wp2
            go_ret
            exact ez
           ·rw [if_neg c26] at H
            have c26b0 := beq_eq_false_iff_ne.mpr c26
            have c26b1 := bne_iff_ne.mpr c26
            exact absurd H (by simp)
          ·replace c25 := Bool.eq_false_iff.mpr c25
           subst c25
           rw [if_neg (show ¬ (false = true) by decide)] at H
           exact absurd H (by simp)
         ·rw [if_neg c23] at H
          have c23b0 := beq_eq_false_iff_ne.mpr c23
          have c23b1 := bne_iff_ne.mpr c23
          exact absurd H (by simp)
        ·rw [if_neg c22] at H
         have c22b0 : ((t375 == t399 && (t376 == t400)) && (t377 == 2)) = false := by simpa using c22
         clear c22
         exact absurd H (by simp)
       ·rw [if_neg c20] at H
        have c20b0 := beq_eq_false_iff_ne.mpr c20
        have c20b1 := bne_iff_ne.mpr c20
        exact absurd H (by simp)
      ·rw [if_neg c19] at H
       have c19b0 : (t363 == t397 && (t364 == t398)) = false := by simpa using c19
       (try (have c19b1 : decide (t363 = t397 && (t364 == t398)) = false := by simpa using c19))
       (try (have c19b2 : (t363 == t397 && (t364 == t398)) = false := by simpa using c19))
       (try (have c19b3 : ¬ (t363 = t397 && (t364 == t398)) := by simpa using c19))
       clear c19
       exact absurd H (by simp)
     ·rw [if_neg c17] at H
      have c17b0 := beq_eq_false_iff_ne.mpr c17
      have c17b1 := bne_iff_ne.mpr c17
      exact absurd H (by simp)
    ·rw [if_neg c16] at H
     have c16b0 : (t351 == t395 && (t352 == t396)) = false := by simpa using c16
     (try (have c16b1 : decide (t351 = t395 && (t352 == t396)) = false := by simpa using c16))
     (try (have c16b2 : (t351 == t395 && (t352 == t396)) = false := by simpa using c16))
     (try (have c16b3 : ¬ (t351 = t395 && (t352 == t396)) := by simpa using c16))
     clear c16
     exact absurd H (by simp)
   ·rw [if_neg c14] at H
    have c14b0 := beq_eq_false_iff_ne.mpr c14
    have c14b1 := bne_iff_ne.mpr c14
    exact absurd H (by simp)
  ·rw [if_neg c13] at H
   have c13b0 : (t344 == t393 && (t345 == t394)) = false := by simpa using c13
   (try (have c13b1 : decide (t344 = t393 && (t345 == t394)) = false := by simpa using c13))
   (try (have c13b2 : (t344 == t393 && (t345 == t394)) = false := by simpa using c13))
   (try (have c13b3 : ¬ (t344 = t393 && (t345 == t394)) := by simpa using c13))
   clear c13
   exact absurd H (by simp)
 ·rw [if_neg c11] at H
  have c11b0 := beq_eq_false_iff_ne.mpr c11
  have c11b1 := bne_iff_ne.mpr c11
  exact absurd H (by simp)
end
end Go.Proofs.YtjnkphmcndaijaaDoor.A
