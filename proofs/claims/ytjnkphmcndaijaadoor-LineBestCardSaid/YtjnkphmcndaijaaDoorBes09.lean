/- Walks of the program's functions (printed, made shorter), each with what it computes. -/
import Derived.Shelf.RegionOpen
import Derived.Test.YtjnkphmcndaijaaDoorBes04
import Derived.Test.YtjnkphmcndaijaaDoorBes06
import Derived.Test.YtjnkphmcndaijaaDoorBes07
import Derived.Test.YtjnkphmcndaijaaDoorBes05
import Derived.Test.YtjnkphmcndaijaaDoorBes08
import Derived.Test.YtjnkphmcndaijaaDoorBes03
namespace Go.Proofs.YtjnkphmcndaijaaDoor.A
set_option maxHeartbeats 8000000
set_option maxRecDepth 100000
open Go.RowKit Go.Proofs.YtjnkphmcndaijaaDoorW.PrintWords Go.Proofs.YtjnkphmcndaijaaDoorW.PrintLast Go.Proofs.YtjnkphmcndaijaaDoorW.PrintMore
attribute [local go_sem] max2_int min2_int max_two min_two max_three min_three max_four min_four
set_option linter.unusedVariables false
set_option linter.unusedSimpArgs false
section
def line_BiasOf_rest.step (k : Nat) (ls lv : List Int) (kind : Int) (j : Nat) (s : Int × Int) : Option (Int × Int) :=
 (line_noisy.f k ls lv j).bind fun row => (Sp_estimate.f k row kind).bind fun q => some (wrap64 (s.1 + q.1), wrap64 (s.2 + 1))
def line_BiasOf_rest.f (k : Nat) (l0_0 l0_1 : List Int) (a0_2 a0_3 a1 : Int) : Option (Int × Int × Int) :=
 (line_cases.f k l0_1 l0_0.length).bind fun c => if 0 ≤ c.1 then if c.1 ≤ 1000000 then (iterN (line_BiasOf_rest.step k l0_0 l0_1 a1) c.1.toNat (0, 0)).bind fun s => (line_fraction.f k (wrap64 (wrap64 (s.1 * a0_3) - wrap64 (a0_2 * s.2))) (wrap64 (s.2 * a0_3))).bind fun q => some (q.1, q.2, 0) else none else none
theorem line_BiasOf_rest.mono : ∀ a0 a1 a2 a3 a4 k, LeO (line_BiasOf_rest.f k a0 a1 a2 a3 a4) (line_BiasOf_rest.f (k + 1) a0 a1 a2 a3 a4) := by
 intro a0 a1 a2 a3 a4 k
 unfold line_BiasOf_rest.f
 refine LeO.bind (line_cases.mono _ _ _) (fun c => ?_)
 refine LeO.ite (LeO.ite (LeO.bind (iterN_mono (fun j s => ?_) _ _) (fun s => LeO.bind (line_fraction.mono _ _ _) (fun _ => LeO.refl _))) (LeO.none _)) (LeO.none _)
 unfold line_BiasOf_rest.step
 exact LeO.bind (line_noisy.mono _ _ _ _) (fun row => LeO.bind (Sp_estimate.mono _ _ _) (fun m => LeO.refl _))
def line_BiasOf_rest.T8 : Bool × List (List Nat × List Nat) := (true, [([], []), ([], []), ([], []), ([1, 2], [1, 2]), ([3], [3]), ([0, 4], [0, 4]), ([], []), ([6], [6]), ([5, 3, 0, 1, 2, 3, 4, 5], [5]), ([7, 8, 0, 1, 2, 3, 4, 5, 6, 7, 8], [7])])
def line_BiasOf_rest.B8 : List Nat := [0, 0, 0, 6, 14, 31, 0, 64, 63, 511]
theorem line_BiasOf_rest.tab8 : rtab .any (opsOf Tryd.f20 8) = line_BiasOf_rest.T8 := by kernel_rfl
theorem line_BiasOf_rest.bits8 : waitsOk line_BiasOf_rest.T8.2 line_BiasOf_rest.B8 = true := by kernel_rfl
attribute [local go_sem] Oper.semAt_some
def line_BiasOf.f (k : Nat) (l0_0 : List Int) (l0_1 : List Int) (a0_2 : Int) (a0_3 : Int) (a1 : Int) : Option (Int × Int × Int) := if a1 = 0 then ((line_CheckCase.f k l0_0 l0_1 a0_2 a0_3).bind fun t186 => ((line_kindErr.f a1).bind fun t187 => ((line_unless.f true 14).bind fun t188 => ((line_first.f k (([t186, t187, t188] : List Int))).bind fun t192 => (if t192 = 0 then (line_BiasOf_rest.f k l0_0 l0_1 a0_2 a0_3 a1) else (some (0, 0, t192))))))) else ((line_CheckCase.f k l0_0 l0_1 a0_2 a0_3).bind fun t195 => ((line_kindErr.f a1).bind fun t196 => ((line_unless.f (a1 == 3) 14).bind fun t197 => ((line_first.f k (([t195, t196, t197] : List Int))).bind fun t201 => (if t201 = 0 then (line_BiasOf_rest.f k l0_0 l0_1 a0_2 a0_3 a1) else (some (0, 0, t201)))))))
theorem line_BiasOf.mono : ∀ a0 a1 a2 a3 a4 k, LeO (line_BiasOf.f k a0 a1 a2 a3 a4) (line_BiasOf.f (k + 1) a0 a1 a2 a3 a4) := by
 intro a0 a1 a2 a3 a4 k
 unfold line_BiasOf.f
 repeat' first
   | (with_reducible exact line_BiasOf_rest.mono _ _ _ _ _ _)
   | (with_reducible exact line_CheckCase.mono _ _ _ _ _)
   | (with_reducible exact line_first.mono _ _)
   | (with_reducible exact LeO.refl _)
   | (with_reducible exact LeO.none _)
   | (with_reducible refine LeO.ite ?_ ?_)
   | (with_reducible refine LeO.bind ?_ (fun _ => ?_))
   | exact line_BiasOf_rest.mono _ _ _ _ _ _
   | exact line_CheckCase.mono _ _ _ _ _
   | exact line_first.mono _ _
   | exact LeO.none _
   | refine LeO.ite ?_ ?_
   | refine LeO.bind ?_ (fun _ => ?_)
def line_BiasOf.T2 : Bool × List (List Nat × List Nat) := (true, [([], []), ([0], [0]), ([], []), ([2, 1], [2]), ([], []), ([4, 3], [4]), ([1, 3, 5], [1, 3, 5]), ([6, 5], [6]), ([7, 7, 0, 1, 2, 3, 4, 5, 6, 7], [7])])
def line_BiasOf.B2 : List Nat := [0, 1, 0, 7, 0, 31, 63, 127, 255]
theorem line_BiasOf.tab2 : rtab .any (opsOf Tryd.f20 2) = line_BiasOf.T2 := by kernel_rfl
theorem line_BiasOf.bits2 : waitsOk line_BiasOf.T2.2 line_BiasOf.B2 = true := by kernel_rfl
theorem line_BiasOf.calls (k : Nat) (A0_0 : Option Addr) (c0_0 : Nat) (l0_0 : List Int) (A0_1 : Option Addr) (c0_1 : Nat) (l0_1 : List Int) (a0_2 : Int) (a0_3 : Int) (a1 : Int) (r1 : Int) (r2 : Int) (r3 : Int) (w : World) (hr0_0 : Kd.C (Kd.int .i64) w A0_0 l0_0.length l0_0) (hc0_0 : l0_0.length ≤ c0_0) (hr0_1 : Kd.C (Kd.int .i64) w A0_1 l0_1.length l0_1) (hc0_1 : l0_1.length ≤ c0_1) (hG : EstG w) (h : line_BiasOf.f k l0_0 l0_1 a0_2 a0_3 a1 = some (r1, r2, r3)) :
  Calls Tryd.prog 20 #[.agg #[.slice A0_0 l0_0.length c0_0, .slice A0_1 l0_1.length c0_1, .int .i64 a0_2, .int .i64 a0_3], .int .i64 a1] w fun e w' => e = .returned (.tuple #[.agg #[.int .i64 r1, .int .i64 r2], .int .i64 r3]) ∧ Below w.heap.size w w' := by
 have hu28 := Tryd.underlying28
 have hu26 := Tryd.underlying26
 have hu24 := Tryd.underlying24
 have hfd26_0 : ∀ (x0_ x1_ : Value) (W_ : World), (Instr.field 26 (.agg #[x0_, x1_]) 0).run Tryd.prog W_ = .ok (x0_) W_ := fun _ _ _ => by kernel_rfl
 have HG := m0 hG
 clear hG
 have HR0_0 := m0 hr0_0
 have HC0_0 := m0 hc0_0
 clear hr0_0 hc0_0
 have HR0_1 := m0 hr0_1
 have HC0_1 := m0 hc0_1
 clear hr0_1 hc0_1
 have HB := m0 (Below.refl w.heap.size w)
 have H : (if a1 = 0 then ((line_CheckCase.f k l0_0 l0_1 a0_2 a0_3).bind fun t186 => ((line_kindErr.f a1).bind fun t187 => ((line_unless.f true 14).bind fun t188 => ((line_first.f k (([t186, t187, t188] : List Int))).bind fun t192 => (if t192 = 0 then (line_BiasOf_rest.f k l0_0 l0_1 a0_2 a0_3 a1) else (some (0, 0, t192))))))) else ((line_CheckCase.f k l0_0 l0_1 a0_2 a0_3).bind fun t195 => ((line_kindErr.f a1).bind fun t196 => ((line_unless.f (a1 == 3) 14).bind fun t197 => ((line_first.f k (([t195, t196, t197] : List Int))).bind fun t201 => (if t201 = 0 then (line_BiasOf_rest.f k l0_0 l0_1 a0_2 a0_3 a1) else (some (0, 0, t201)))))))) = some (r1, r2, r3) := h
 clear h
 by_cases c3 : a1 = 0
 ·rw [if_pos c3] at H
  have c3b0 := beq_iff_eq.mpr c3
  have c3b1 := bne_eq_false_iff_eq.mpr c3
  clear c3
  replace H := ob H
  obtain ⟨t186, A40, H⟩ := H
  (try dsimp only at H)
  have A4 := m0 A40
  clear A40
  replace H := ob H
  obtain ⟨t187, A50, H⟩ := H
  (try dsimp only at H)
  have A5 := m0 A50
  clear A50
  replace H := ob H
  obtain ⟨t188, A60, H⟩ := H
  (try dsimp only at H)
  have A6 := m0 A60
  clear A60
  obtain ⟨y189, hy189⟩ : ∃ y_ : List Int, y_ = (([t186, t187, t188] : List Int)) := ⟨_, rfl⟩
  replace H : ((line_first.f k y189).bind fun t192 => (if t192 = 0 then (line_BiasOf_rest.f k l0_0 l0_1 a0_2 a0_3 a1) else (some (0, 0, t192)))) = some (r1, r2, r3) := by first | (rw [hy189]; with_reducible exact H) | (have H2_ := (Option.bind_some _ _).symm.trans H; rw [hy189]; with_reducible exact H2_) | (have H2_ := (Option.bind_some _ _).symm.trans H; with_reducible exact H2_) | with_reducible exact H | (rw [hy189]; exact H) | exact H
  have Ny189 := m0 hy189
  clear hy189
  replace H := ob H
  obtain ⟨t192, A70, H⟩ := H
  (try dsimp only at H)
  have A7 := m0 A70
  clear A70
  by_cases c8 : t192 = 0
  ·rw [if_pos c8] at H
   have c8b0 := beq_iff_eq.mpr c8
   have c8b1 := bne_eq_false_iff_eq.mpr c8
   clear c8
   refine (callsIn_wide (n := 9)).1 (callsIn_of_wp_marks Tryd.func20 rfl trivial (wpIn_mono (Q := QM 9 Tryd.prog Tryd.f20 _) (wpIn_wide.2 ?_) (fun _ _ _ h => QM.le h)) rfl)
   simp only [Tryd.ntmps20, List.size_toArray, List.length_cons, List.length_nil, Nat.reduceAdd, Nat.reduceSub, Array.replicate_succ, Array.replicate_zero, List.push_toArray, List.append_toArray, List.nil_append, List.cons_append]
   try go_wp2_with (first | ((with_reducible refine gate_dst (N := 2) rfl ?_); refine be 2 28 #[.slice A0_0 l0_0.length c0_0, .slice A0_1 l0_1.length c0_1, .int .i64 a0_2, .int .i64 a0_3] ?_; intro gb183 hg w9 hbox hb; have BK183 := m0 hbox; have GW183 := m0 (bg (n := w.heap.size) hg); have GE183 := m0 (bg (n := w.heap.size) hg); replace HB := sb HB hb; clear hb hbox hg) | ((with_reducible refine gate_dst (N := 3) rfl ?_); refine be 3 3 #[.int .i64 a1] ?_; intro gb184 hg w10 hbox hb; have BK184 := m0 hbox; have GW184 := m0 (bg (n := w.heap.size) hg); have GE184 := m0 (bg (n := w.heap.size) hg); replace HB := sb HB hb; have NB183_184 := nl BK183 hg; have NB184_183 := ng (nl BK183 hg); replace BK183 := bb BK183 hb; clear hb hbox hg) | ((with_reducible refine gate_dst (N := 4) rfl ?_); refine be 4 26 #[.int .i64 0, .int .i64 0] ?_; intro gb185 hg w11 hbox hb; have BK185 := m0 hbox; have GW185 := m0 (bg (n := w.heap.size) hg); have GE185 := m0 (bg (n := w.heap.size) hg); replace HB := sb HB hb; have NB183_185 := nl BK183 hg; have NB185_183 := ng (nl BK183 hg); replace BK183 := bb BK183 hb; have NB184_185 := nl BK184 hg; have NB185_184 := ng (nl BK184 hg); replace BK184 := bb BK184 hb; clear hb hbox hg; have hnb12 := NB184_183.out; have hnc12 := NB183_184.out; have hnb13 := NB184_185.out; have hnc13 := NB185_184.out; obtain ⟨_, _⟩ := b1 BK184))
   replace BK183 := bd BK183; replace BK184 := bd BK184; replace BK185 := bd BK185; replace HB := sd HB
   refine start_ (n := 9) (S := fun w' => w'.cell? ⟨gb183, 0, none⟩ = some (.slice A0_0 l0_0.length c0_0) ∧ w'.cell? ⟨gb183, 1, none⟩ = some (.slice A0_1 l0_1.length c0_1) ∧ w'.cell? ⟨gb183, 2, none⟩ = some (.int .i64 a0_2) ∧ w'.cell? ⟨gb183, 3, none⟩ = some (.int .i64 a0_3) ∧ w'.cell? ⟨gb184, 0, none⟩ = some (.int .i64 a1)) (ds := []) #[false, false, false, false, false, false, false, false, false] (by kernel_rfl) rfl rfl cz (fun hHeld => ?_); refine with_tabW line_BiasOf.tab2 line_BiasOf.bits2 (fun HT_ HW_ => ?_)
   generalize w11.drew = w15 at BK183 BK184 BK185 HB hHeld ⊢
   refine pureZ (i := 4) (N := some 22) #[false, false, false, false, true, false, false, false, false] HT_ ?_
   refine takeZ 0 (some 18) #[true, false, false, false, true, false, false, false, false] (take_ofW HT_.out HW_.out (by kernel_rfl)) hHeld ?_
   refine takeZ 2 (some 20) #[true, false, true, false, true, false, false, false, false] (take_ofW HT_.out HW_.out (by kernel_rfl)) hHeld ?_
   refine oneZ 1 (some 19) #[true, true, true, false, true, false, false, false, false] (one_of HT_.out (by kernel_rfl)) fun K hK => ?_
   refine goes_ Tryd.func53 (by kernel_rfl) rfl #[.agg #[.slice A0_0 l0_0.length c0_0, .slice A0_1 l0_1.length c0_1, .int .i64 a0_2, .int .i64 a0_3]] (by rfl) rfl rfl mz ?_
   with_reducible refine (line_CheckCase.calls k _ _ l0_0 _ _ l0_1 a0_2 a0_3 t186 _ ?side1 ?side2 ?side3 ?side4 A4.out).mono ?_
   (case side1 => exact cb HR0_0 HB)
   (case side2 => exact HC0_0.out)
   (case side3 => exact cb HR0_1 HB)
   (case side4 => exact HC0_1.out)
   rintro e w16 ⟨rfl, hb⟩
   refine ⟨_, rfl, ?_⟩
   replace BK183 := bb BK183 hb; replace BK184 := bb BK184 hb; replace BK185 := bb BK185 hb; replace HB := sb HB hb
   (try clear hb)
   refine hK.out _ _ cz (fun hHeld => ?_)
   clear hK K
   refine norm_ (a' := ?_) ?_ ?_
   rotate_left
   ·show Act.put _ (some 19) _ = _
    exact pz
   refine oneZ 3 (some 21) #[true, true, true, true, true, false, false, false, false] (one_of HT_.out (by kernel_rfl)) fun K hK => ?_
   refine goes_ Tryd.func92 (by kernel_rfl) rfl #[.int .i64 a1] (by rfl) rfl rfl mz ?_
   with_reducible refine (line_kindErr.calls a1 t187 _ A5.out).mono ?_
   rintro e w' ⟨rfl, ⟨nd, rfl⟩⟩
   refine ⟨_, rfl, ?_⟩
   refine hK.out _ _ cz (fun hHeld => ?_)
   clear hK K
   refine norm_ (a' := ?_) ?_ ?_
   rotate_left
   ·show Act.put _ (some 21) _ = _
    exact pz
   refine oneZ 5 (some 23) #[true, true, true, true, true, true, false, false, false] (one_of HT_.out (by kernel_rfl)) fun K hK => ?_
   refine goes_ Tryd.func93 (by kernel_rfl) rfl #[.bool true, .int .i64 14] (by rfl) rfl rfl mz ?_
   with_reducible refine (line_unless.calls true 14 t188 _ A6.out).mono ?_
   rintro e w' ⟨rfl, ⟨nd, rfl⟩⟩
   refine ⟨_, rfl, ?_⟩
   refine hK.out _ _ cz (fun hHeld => ?_)
   clear hK K
   refine norm_ (a' := ?_) ?_ ?_
   rotate_left
   ·show Act.put _ (some 23) _ = _
    exact pz
   refine oneZ 6 (some 24) #[true, true, true, true, true, true, true, false, false] (one_of HT_.out (by kernel_rfl)) fun K hK => ?_
   refine Kd.R_lit_step (Kd.int .i64) _ 31 ?hg (N := 24) ?hd (xs := ([t186, t187, t188] : List Int)) (inner := [.int .i64 t186, .int .i64 t187, .int .i64 t188]) (ok := fun _ => True) (okp := fun _ => True) ?hr ?hp (fun _ hk => hk) trivial (Below.refl _ _) (Nat.le_refl _) (by simp) ?_; (case hd => rfl); (case hg => rfl); (case hr => first | (go_simp; done) | (go_simp; rfl)); (case hp => exact (Reps.one (show Kd.M (Kd.int .i64) _ _ _ t186 [.int .i64 t186] from rfl) (Reps.one (show Kd.M (Kd.int .i64) _ _ _ t187 [.int .i64 t187] from rfl) (Reps.one (show Kd.M (Kd.int .i64) _ _ _ t188 [.int .i64 t188] from rfl) (Reps.none _ _)))))
   intro v190 w17 ho18 hb hg_ hnew_
   clear hg_ hnew_
   (first | rw [← Ny189.out] at ho18 | (simp only [Int.reduceToNat] at ho18; rw [← Ny189.out] at ho18))
   have HO191 := m0 (Kd.R_lower ho18 (below_size bz)); replace BK183 := bb BK183 hb; replace BK184 := bb BK184 hb; replace BK185 := bb BK185 hb; replace HB := sb HB hb
   clear hb ho18
   obtain ⟨Ao19, co19, eo19⟩ := Kd.R_slice HO191.out
   (first | subst eo19 | (injection eo19 with f1_ f2_ f3_; have f4_ := f1_.symm; have f5_ := f3_.symm; clear f1_ f2_ f3_; subst f4_; subst f5_))
   refine hK.out _ _ cz (fun hHeld => ?_)
   clear hK K
   refine norm_ (a' := ?_) ?_ ?_
   rotate_left
   ·show Act.put _ (some 24) _ = _
    exact pz
   refine oneZ 7 (some 25) #[true, true, true, true, true, true, true, true, false] (one_of HT_.out (by kernel_rfl)) fun K hK => ?_
   refine goes_ Tryd.func91 (by kernel_rfl) rfl #[.slice Ao19 y189.length co19] (by rfl) rfl rfl mz ?_
   with_reducible refine (line_first.calls k _ _ y189 t192 _ ?side1 ?side2 A7.out).mono ?_
   (case side1 => exact bc (Kd.R_reads' HO191.out).2.2)
   (case side2 => exact (Kd.R_reads' HO191.out).2.1)
   rintro e w' ⟨rfl, ⟨nd, rfl⟩⟩
   refine ⟨_, rfl, ?_⟩
   refine hK.out _ _ cz (fun hHeld => ?_)
   clear hK K
   refine norm_ (a' := ?_) ?_ ?_
   rotate_left
   ·show Act.put _ (some 25) _ = _
    exact pz
   refine pureZ (i := 8) (N := some 7) #[true, true, true, true, true, true, true, true, true] HT_ ?_
   refine done_ (done_of HT_.out (by kernel_rfl)) ?_
   try go_wp2_with (first | ((with_reducible refine gate_dst (N := 8) rfl ?_); refine be 8 3 #[.int .i64 0] ?_; intro gb193 hg w20 hbox hb; replace HO191 := rb HO191 hb; have BK193 := m0 hbox; have GW193 := m0 (bg (n := w.heap.size) hg); have GE193 := m0 (bg (n := w.heap.size) hg); replace HB := sb HB hb; have NB183_193 := nl BK183 hg; have NB193_183 := ng (nl BK183 hg); replace BK183 := bb BK183 hb; have NB184_193 := nl BK184 hg; have NB193_184 := ng (nl BK184 hg); replace BK184 := bb BK184 hb; have NB185_193 := nl BK185 hg; have NB193_185 := ng (nl BK185 hg); replace BK185 := bb BK185 hb; clear hb hbox hg) | ((with_reducible refine gate_dst (N := 9) rfl ?_); refine be 9 3 #[.int .i64 0] ?_; intro gb194 hg w21 hbox hb; replace HO191 := rb HO191 hb; have BK194 := m0 hbox; have GW194 := m0 (bg (n := w.heap.size) hg); have GE194 := m0 (bg (n := w.heap.size) hg); replace HB := sb HB hb; have NB183_194 := nl BK183 hg; have NB194_183 := ng (nl BK183 hg); replace BK183 := bb BK183 hb; have NB184_194 := nl BK184 hg; have NB194_184 := ng (nl BK184 hg); replace BK184 := bb BK184 hb; have NB185_194 := nl BK185 hg; have NB194_185 := ng (nl BK185 hg); replace BK185 := bb BK185 hb; have NB193_194 := nl BK193 hg; have NB194_193 := ng (nl BK193 hg); replace BK193 := bb BK193 hb; clear hb hbox hg; have hnb22 := NB193_183.out; have hnc22 := NB183_193.out; have hnb23 := NB193_184.out; have hnc23 := NB184_193.out; have hnb24 := NB193_185.out; have hnc24 := NB185_193.out; have hnb25 := NB193_194.out; have hnc25 := NB194_193.out; obtain ⟨_, _⟩ := b1 BK193; have hnb27 := NB194_183.out; have hnc27 := NB183_194.out; have hnb28 := NB194_184.out; have hnc28 := NB184_194.out; have hnb29 := NB194_185.out; have hnc29 := NB185_194.out; obtain ⟨_, _⟩ := b1 BK194; have hnb31 := NB183_185.out; have hnc31 := NB185_183.out; obtain ⟨_, _, _, _, _, _, _, _⟩ := b4 BK183))
   go_wp2_with (first | (go_at_call 94; refine (line_each.calls_own _ _ _ _ _ _ _).mono ?_; rintro e w' ⟨rfl, rfl⟩))
   unfold line_BiasOf_rest.f at H
   obtain ⟨⟨all, few⟩, hall, H⟩ := ob H
   by_cases h0 : 0 ≤ all
   case neg => rw [if_neg h0] at H; exact absurd H (by simp)
   rw [if_pos h0] at H
   by_cases hbig : all ≤ 1000000
   case neg => rw [if_neg hbig] at H; exact absurd H (by simp)
   rw [if_pos hbig] at H
   obtain ⟨⟨tot, cnt⟩, hit, H⟩ := ob H
   obtain ⟨⟨q1, q2⟩, hfr, H⟩ := ob H
   simp only [Option.some.injEq, Prod.mk.injEq] at H
   obtain ⟨rfl, rfl, rfl⟩ := H
   replace hit : iterN (line_BiasOf_rest.step k l0_0 l0_1 a1) all.toNat (0, 0) = some (tot, cnt) := hit
   replace hfr : line_fraction.f k (wrap64 (wrap64 (tot * a0_3) - wrap64 (a0_2 * cnt))) (wrap64 (cnt * a0_3)) = some (q1, q2) := hfr
   replace hall : line_cases.f k l0_1 l0_0.length = some (all, few) := hall
   have n89 := NB193_194.out
   have n28 := NB183_193.out
   have n29 := NB183_194.out
   have n38 := NB184_193.out
   have n39 := NB184_194.out
   have n48 := NB185_193.out
   have n49 := NB185_194.out
   have e8 := GE193.out
   have e9 := GE194.out
   have e4 := GE185.out
   obtain ⟨Wb, hWb⟩ := world_of BK183.out
   subst hWb
   obtain ⟨W0, hW0⟩ : ∃ W0, (((Wb.setCell ⟨gb193, 0, none⟩ (.int .i64 0)).setCell ⟨gb194, 0, none⟩ (.int .i64 0)).alloc (.cells #[.slice A0_0 l0_0.length c0_0] 22)).alloc (.cells #[.slice A0_1 l0_1.length c0_1] 24) = W0 := ⟨_, rfl⟩
   have hz : W0.heap.size = Wb.heap.size + 2 := by rw [← hW0]; simp [World.setCell]
   have hb0 : Below w.heap.size w W0 := by rw [← hW0]; exact bz
   have k2 : W0.heap[gb183]? = some (.cells #[.slice A0_0 l0_0.length c0_0, .slice A0_1 l0_1.length c0_1, .int .i64 a0_2, .int .i64 a0_3] 28 (0, 0)) := by rw [← hW0]; exact (bq BK183.out)
   have k3 : W0.heap[gb184]? = some (.cells #[.int .i64 a1] 3 (0, 0)) := by rw [← hW0]; exact (bq BK184.out)
   have k4 : W0.heap[gb185]? = some (.cells #[.int .i64 0, .int .i64 0] 26 (0, 0)) := by rw [← hW0]; exact (bq BK185.out)
   have k8 : W0.heap[gb193]? = some (.cells #[.int .i64 0] 3 (0, 0)) := by rw [← hW0]; exact (by (with_reducible repeat (first | refine blk_drewN ?_ _ | refine blk_drew ?_ | refine blk_alloc ?_ _)); refine blk_far ?_ NB193_194.out _; (with_reducible repeat (first | refine blk_drewN ?_ _ | refine blk_drew ?_ | refine blk_alloc ?_ _)); refine blk_put (cs := #[.int .i64 0]) ?_ 0 _ rfl; (with_reducible repeat (first | refine blk_drewN ?_ _ | refine blk_drew ?_ | refine blk_alloc ?_ _)); exact BK193.out)
   have k9 : W0.heap[gb194]? = some (.cells #[.int .i64 0] 3 (0, 0)) := by rw [← hW0]; exact (by (with_reducible repeat (first | refine blk_drewN ?_ _ | refine blk_drew ?_ | refine blk_alloc ?_ _)); refine blk_put (cs := #[.int .i64 0]) ?_ 0 _ rfl; (with_reducible repeat (first | refine blk_drewN ?_ _ | refine blk_drew ?_ | refine blk_alloc ?_ _)); refine blk_far ?_ NB194_193.out _; (with_reducible repeat (first | refine blk_drewN ?_ _ | refine blk_drew ?_ | refine blk_alloc ?_ _)); exact BK194.out)
   have l8 := blk_lt BK193.out
   have l9 := blk_lt BK194.out
   have ks : W0.heap[Wb.heap.size]? = some (.cells #[.slice A0_0 l0_0.length c0_0] 22 (0, 0)) := by
    rw [← hW0]; apply blk_alloc
    have := blk_new ((Wb.setCell ⟨gb193, 0, none⟩ (.int .i64 0)).setCell ⟨gb194, 0, none⟩ (.int .i64 0)) (.cells #[.slice A0_0 l0_0.length c0_0] 22 (0, 0)); simpa [World.setCell] using this
   have kx : W0.heap[Wb.heap.size + 1]? = some (.cells #[.slice A0_1 l0_1.length c0_1] 24 (0, 0)) := by
    rw [← hW0]
    have := blk_new (((Wb.setCell ⟨gb193, 0, none⟩ (.int .i64 0)).setCell ⟨gb194, 0, none⟩ (.int .i64 0)).alloc (.cells #[.slice A0_0 l0_0.length c0_0] 22)) (.cells #[.slice A0_1 l0_1.length c0_1] 24 (0, 0)); simpa [World.setCell] using this
   rw [hW0]
   clear hW0
   have hrow : ∀ j : Nat, (j : Int) < all → line_noisy.f k l0_0 l0_1 j = some ((line_noisy.f k l0_0 l0_1 j).getD []) := fun j hj => by
    obtain ⟨q, hq⟩ := iterN_pre hit (show j ≤ all.toNat by omega)
    obtain ⟨q', hq', _⟩ := iterN_at hit (show j < all.toNat by omega) hq
    obtain ⟨row, hr, _⟩ := Option.bind_eq_some_iff.mp hq'
    rw [hr]; rfl
   have hY := line_each.yields 8 k (by decide) A0_0 A0_1 c0_0 c0_1 l0_0 l0_1 all few (fun j => (line_noisy.f k l0_0 l0_1 j).getD []) w (Wb.heap.size + 1) Wb.heap.size W0 hb0 ((blk_cell kx 0).trans rfl) ((blk_cell ks 0).trans rfl) HR0_0.out HC0_0.out HR0_1.out HC0_1.out hall h0 hbig hrow
   have HIT := m0 hit
   have HFR := m0 hfr
   have HY := m0 hY
   refine wpIn_wide.1 (wpIn_rangeN2 (n := 9) rfl (by decide) (gf := 131) (lb := #[.pointer (some ⟨Wb.heap.size + 1, 0, none⟩), .pointer (some ⟨Wb.heap.size, 0, none⟩)]) rfl trivial (enters_of Tryd.func131 (by kernel_rfl) rfl) HY.out
    (line_each.Rd_putObj) (fun h k => h.trans k) (fun W l o o' hl h hc hw => line_each.Kp_putObj (w := W0) (v1 := undef) (v2 := undef) (Nat.le_trans hb0.size (Nat.le_refl _)) W l o o' hl h hc hw (by omega) (by omega)) (Below.refl _ _) (fun _ _ => rfl)
    (fun j W => (∃ s : Int × Int, iterN (line_BiasOf_rest.step k l0_0 l0_1 a1) j (0, 0) = some s ∧ W.heap[gb193]? = some (.cells #[.int .i64 s.1] 3 (0, 0)) ∧ W.heap[gb194]? = some (.cells #[.int .i64 s.2] 3 (0, 0)) ∧ W.heap[gb183]? = some (.cells #[.slice A0_0 l0_0.length c0_0, .slice A0_1 l0_1.length c0_1, .int .i64 a0_2, .int .i64 a0_3] 28 (0, 0)) ∧ W.heap[gb184]? = some (.cells #[.int .i64 a1] 3 (0, 0)) ∧ W.heap[gb185]? = some (.cells #[.int .i64 0, .int .i64 0] 26 (0, 0)) ∧ W0.heap.size ≤ W.heap.size) ∧ Below w.heap.size w W)
    (fun _ _ _ => False)
    (OwnFrom.and (fun j A B row hs hg hr => by
     obtain ⟨s, h1, h2, h3, h4, h5, h6, h7⟩ := hs
     exact ⟨s, h1, blk_own h2 hg hr, blk_own h3 hg hr, blk_own h4 hg hr, blk_own h5 hg hr, blk_own h6 hg hr, Nat.le_trans h7 hg.size⟩) (ownFrom_below (Nat.le_refl _) hb0.size))
    (fun _ _ _ _ _ hs _ _ => hs)
    ⟨⟨(0, 0), rfl, k8, k9, k2, k3, k4, Nat.le_refl _⟩, hb0⟩ ?round ?done ?stop)
   case stop =>
    rintro D c j W _ _ h _
    exact h.elim
   case round =>
    intro l j x W K hj hK
    have HKK := m0 hK
    clear hK
    gi_wp2
    refine HKK.out _ ?_
    clear HKK
    rintro W ⟨⟨⟨s1, s2⟩, hs, h8, h9, h2, h3, h4, h6⟩, hB⟩ ⟨A, c, hx, hc, hC, hm⟩
    obtain ⟨q', hq', hq1⟩ := iterN_at HIT.out hj hs
    obtain ⟨row, hr, hq'⟩ := Option.bind_eq_some_iff.mp hq'
    obtain ⟨⟨m1, m2⟩, hmx, hq'⟩ := Option.bind_eq_some_iff.mp hq'
    have er : (line_noisy.f k l0_0 l0_1 (j : Int)).getD [] = row := by rw [hr]; rfl
    simp only [er] at hx hc hC
    subst hx
    obtain rfl := Option.some.inj hq'
    have hEst := EstG.below HG.out hB
    have hcall : ∀ W5 : World, W5.heap = W.heap → W5.os = W.os → W5.tape = W.tape → W5.output = W.output → Calls Tryd.prog 95 #[.slice A row.length c, .int .i64 a1] W5 fun e w5 => e = .returned (.agg #[.int .i64 m1, .int .i64 m2]) ∧ w5.heap[gb193]? = some (.cells #[.int .i64 s1] 3 (0, 0)) ∧ w5.heap[gb194]? = some (.cells #[.int .i64 s2] 3 (0, 0)) ∧ w5.heap[gb184]? = some (.cells #[.int .i64 a1] 3 (0, 0)) ∧ Aside0 (Below W.heap.size W w5) := fun W5 hh ho ht hp => by
     refine (Sp_estimate.calls k A c row a1 m1 m2 W5 (C_blocks hC (fun ad e => by rw [hh])) hc (EstG.below hEst ⟨ho, ht, hp, by rw [hh]; exact Nat.le_refl _, fun i _ => by rw [hh]⟩) hmx).mono ?_
     rintro e w5 ⟨rfl, hb⟩
     have hb' := below_heap hb hh ho ht hp
     exact ⟨rfl, blk_below h8 hb', blk_below h9 hb', blk_below h3 hb', ⟨hb'⟩⟩
    have HCALL := m0 hcall
    have hpan : ∀ c a w', ¬ leftN (line_each.Kp w.heap.size (Wb.heap.size + 1) Wb.heap.size) (fun j W => (∃ s : Int × Int, iterN (line_BiasOf_rest.step k l0_0 l0_1 a1) j (0, 0) = some s ∧ W.heap[gb193]? = some (.cells #[.int .i64 s.1] 3 (0, 0)) ∧ W.heap[gb194]? = some (.cells #[.int .i64 s.2] 3 (0, 0)) ∧ W.heap[gb183]? = some (.cells #[.slice A0_0 l0_0.length c0_0, .slice A0_1 l0_1.length c0_1, .int .i64 a0_2, .int .i64 a0_3] 28 (0, 0)) ∧ W.heap[gb184]? = some (.cells #[.int .i64 a1] 3 (0, 0)) ∧ W.heap[gb185]? = some (.cells #[.int .i64 0, .int .i64 0] 26 (0, 0)) ∧ W0.heap.size ≤ W.heap.size) ∧ Below w.heap.size w W) (fun _ _ _ => False) (j + 1) W (.panic c) a w' := fun _ _ _ h => h
    have hout : ¬ LetsOut (leftN (line_each.Kp w.heap.size (Wb.heap.size + 1) Wb.heap.size) (fun j W => (∃ s : Int × Int, iterN (line_BiasOf_rest.step k l0_0 l0_1 a1) j (0, 0) = some s ∧ W.heap[gb193]? = some (.cells #[.int .i64 s.1] 3 (0, 0)) ∧ W.heap[gb194]? = some (.cells #[.int .i64 s.2] 3 (0, 0)) ∧ W.heap[gb183]? = some (.cells #[.slice A0_0 l0_0.length c0_0, .slice A0_1 l0_1.length c0_1, .int .i64 a0_2, .int .i64 a0_3] 28 (0, 0)) ∧ W.heap[gb184]? = some (.cells #[.int .i64 a1] 3 (0, 0)) ∧ W.heap[gb185]? = some (.cells #[.int .i64 0, .int .i64 0] 26 (0, 0)) ∧ W0.heap.size ≤ W.heap.size) ∧ Below w.heap.size w W) (fun _ _ _ => False) (j + 1) W) := fun ⟨_, _, h⟩ => h
    generalize hLEFT : leftN _ _ _ _ _ = LEFT at hpan hout ⊢
    have hyes : ∀ (w7 : World) (a : Act), Aside0 (Below W.heap.size W w7) → LEFT Exit.normal a ((w7.setCell ⟨gb193, 0, none⟩ (.int .i64 (wrap64 (s1 + m1)))).setCell ⟨gb194, 0, none⟩ (.int .i64 (wrap64 (s2 + 1)))) := by
     intro w7 a hb'
     have hb := hb'.out
     rw [← hLEFT]
     have hsz := hb.size
     have g8 := blk_below h8 hb
     have g9 := blk_below h9 hb
     refine ⟨((others_below hb).trans (KeepsOthers.setCell _ _ _)).trans (KeepsOthers.setCell _ _ _), ((show line_each.Kp w.heap.size (Wb.heap.size + 1) Wb.heap.size W w7 from ⟨hb.mono (Nat.le_trans hb0.size h6), World.cell?_of_block (hb.block _ (show Wb.heap.size + 1 < _ by omega)), World.cell?_of_block (hb.block _ (show Wb.heap.size < _ by omega))⟩).setCell e8 (by omega) (by omega)).setCell e9 (by omega) (by omega), ⟨_, hq1, ?_, ?_, ?_, ?_, ?_, ?_⟩, ?_⟩
     ·exact blk_ne_set (blk_put g8 0 _ rfl) n89
     ·exact blk_put (blk_ne_set g9 (fun e => n89 e.symm)) 0 _ rfl
     ·exact blk_ne_set (blk_ne_set (blk_below h2 hb) n28) n29
     ·exact blk_ne_set (blk_ne_set (blk_below h3 hb) n38) n39
     ·exact blk_ne_set (blk_ne_set (blk_below h4 hb) n48) n49
     ·simpa [World.setCell] using Nat.le_trans h6 hsz
     ·exact ((hB.trans (hb.mono (Nat.le_trans hb0.size h6))).setCell (p := ⟨gb193, 0, none⟩) e8 _).setCell (p := ⟨gb194, 0, none⟩) e9 _
    have HYES := m0 hyes
    have N89 := m0 n89
    have N38 := m0 n38
    have HPAN := m0 hpan
    have HOUT := m0 hout
    have c8 : W.cell? ⟨gb193, 0, none⟩ = some (.int .i64 s1) := (blk_cell h8 0).trans rfl
    have c9 : W.cell? ⟨gb194, 0, none⟩ = some (.int .i64 s2) := (blk_cell h9 0).trans rfl
    have c3 : W.cell? ⟨gb184, 0, none⟩ = some (.int .i64 a1) := (blk_cell h3 0).trans rfl
    have hmo : Tryd.prog.follows .mixedOrders = true := by kernel_rfl
    clear hpan hout hyes hLEFT hcall hs hr hmx hq1 hC hm hB h8 h9 h2 h3 h4 h6 hc hj er hEst hrow hY k2 k3 k4 k8 k9 ks kx hb0 hz hall h0 hbig hit hfr n89 n28 n29 n38 n39 n48 n49 e8 e9 e4 l8 l9
    gi_wp2
    refine startR_ (S := fun w' => w'.cell? ⟨gb194, 0, none⟩ = some (.int .i64 s2) ∧ w'.cell? ⟨gb184, 0, none⟩ = some (.int .i64 a1)) (ds := [9]) #[false, false, false, false, false, false, false, false, false, false] hmo (by kernel_rfl) HOUT.out rfl rfl ⟨c9, c3⟩ (fun hHeld => ?_)
    refine with_tabW line_BiasOf_rest.tab8 line_BiasOf_rest.bits8 (fun HT_ HW_ => ?_)
    refine pure_ (i := 1) (N := some 38) (v := ?_) (a' := ?_) #[false, true, false, false, false, false, false, false, false, false] rfl rfl (any_of HT_.out (by kernel_rfl)) (fun _ _ _ h => (HPAN.out _ _ _ h).elim) (Or.inl ⟨by rfl, ?_⟩) ?_ ?_
    rotate_left
    ·intro w'
     go_simp
     with_reducible rfl
    rotate_left
    ·exact pz
    refine take_ (i := 2) (N := some 39) (v := ?_) (a' := ?_) #[false, true, true, false, false, false, false, false, false, false] rfl rfl (take_ofW HT_.out HW_.out (by kernel_rfl)) (fun _ _ _ h => (HPAN.out _ _ _ h).elim) (Or.inl ⟨by rfl, ?_⟩) hHeld ?_ ?_
    rotate_left
    ·rintro w' ⟨s0, s1⟩
     go_simp
     with_reducible rfl
    rotate_left
    ·exact pz
    refine take_ (i := 6) (N := some 43) (v := ?_) (a' := ?_) #[false, true, true, false, false, false, true, false, false, false] rfl rfl (take_ofW HT_.out HW_.out (by kernel_rfl)) (fun _ _ _ h => (HPAN.out _ _ _ h).elim) (Or.inl ⟨by rfl, ?_⟩) hHeld ?_ ?_
    rotate_left
    ·rintro w' ⟨s0, s1⟩
     go_simp
     with_reducible rfl
    rotate_left
    ·exact pz
    refine pure_ (i := 7) (N := some 44) (v := ?_) (a' := ?_) #[false, true, true, false, false, false, true, true, false, false] rfl rfl (any_of HT_.out (by kernel_rfl)) (fun _ _ _ h => (HPAN.out _ _ _ h).elim) (Or.inl ⟨by rfl, ?_⟩) ?_ ?_
    rotate_left
    ·intro w'
     go_simp
     with_reducible rfl
    rotate_left
    ·exact pz
    refine two_ (i := 0) (j := 3) (Ni := some 37) (Nj := some 40) #[true, true, true, false, false, false, true, true, false, false] #[false, true, true, true, false, false, true, true, false, false] rfl rfl rfl rfl (two_of HT_.out (by kernel_rfl)) (by decide) (by decide) (fun K hK => ?_) (fun K hK => ?_)
    ·refine value_ (v := .int .i64 s1) (w1 := W.drew) (by rfl) rfl (by go_simp) ?_
     refine hK.out _ _ hHeld (fun hHeld => ?_)
     clear hK K
     refine norm_ (a' := ?_) ?_ ?_
     rotate_left
     ·show Act.put _ (some 37) _ = _
      exact pz
     refine oneZ 3 (some 40) #[true, true, true, true, false, false, true, true, false, false] (one_of HT_.out (by kernel_rfl)) fun K hK => ?_
     refine goes_ Tryd.func95 (by kernel_rfl) rfl #[.slice A row.length c, .int .i64 a1] (by rfl) rfl rfl (by (try simp only [List.map_toArray, List.map_cons, List.map_nil]); first | done | rfl) ?_
     refine (HCALL.out _ (by rfl) (by rfl) (by rfl) (by rfl)).mono ?_
     rintro e w5 ⟨rfl, g8, g9, g3, HX⟩
     refine ⟨_, rfl, ?_⟩
     refine hK.out _ _ ⟨(blk_cell g9 0).trans rfl, (blk_cell g3 0).trans rfl⟩ (fun hHeld => ?_)
     clear hK K
     refine norm_ (a' := ?_) ?_ ?_
     rotate_left
     ·show Act.put _ (some 40) _ = _
      exact pz
     refine pure_ (i := 4) (N := some 41) (v := ?_) (a' := ?_) #[true, true, true, true, true, false, true, true, false, false] rfl rfl (any_of HT_.out (by kernel_rfl)) (fun _ _ _ h => (HPAN.out _ _ _ h).elim) (Or.inl ⟨by rfl, ?_⟩) ?_ ?_
     rotate_left
     ·intro w'
      go_simp
      with_reducible rfl
     rotate_left
     ·exact pz
     refine pure_ (i := 5) (N := some 42) (v := ?_) (a' := ?_) #[true, true, true, true, true, true, true, true, false, false] rfl rfl (any_of HT_.out (by kernel_rfl)) (fun _ _ _ h => (HPAN.out _ _ _ h).elim) (Or.inl ⟨by rfl, ?_⟩) ?_ ?_
     rotate_left
     ·intro w'
      go_simp
      with_reducible rfl
     rotate_left
     ·exact pz
     refine oneZ 8 (none) #[true, true, true, true, true, true, true, true, true, false] (one_of HT_.out (by kernel_rfl)) fun K hK => ?_
     have d8 : w5.cell? ⟨gb193, 0, none⟩ = some (.int .i64 s1) := (blk_cell g8 0).trans rfl
     have f8 : w5.frozen? ⟨gb193, 0, none⟩ = false := blk_frozen g8 0
     refine skip_ (w1 := ?_) (by rfl) rfl ?_ ?_
     rotate_left
     ·go_simp
      rfl
     have q9 := blk_ne_set (b := gb193) (i := 0) (u := .int .i64 (wrap64 (s1 + m1))) g9 (fun e => N89.out e.symm)
     have q3 := blk_ne_set (b := gb193) (i := 0) (u := .int .i64 (wrap64 (s1 + m1))) g3 N38.out
     refine hK.out _ _ ⟨(blk_cell q9 0).trans rfl, (blk_cell q3 0).trans rfl⟩ (fun hHeld => ?_)
     clear hK K d8 f8
     refine last_ (i := 9) (N := none) #[true, true, true, true, true, true, true, true, true, true] rfl rfl (one_of HT_.out (by kernel_rfl)) (by decide) (fun K hK => ?_)
     have d9 := (blk_cell q9 0).trans rfl
     have f9 := blk_frozen q9 0
     refine skip_ (w1 := ?_) (by rfl) rfl ?_ ?_
     rotate_left
     ·go_simp
      rfl
     refine hK.out _ _ ?_
     clear hK K
     refine done_ (done_of HT_.out (by kernel_rfl)) ?_
     exact HYES.out _ _ HX
    ·refine goes_ Tryd.func95 (by kernel_rfl) rfl #[.slice A row.length c, .int .i64 a1] (by rfl) rfl rfl (by (try simp only [List.map_toArray, List.map_cons, List.map_nil]); first | done | rfl) ?_
     refine (HCALL.out _ (by rfl) (by rfl) (by rfl) (by rfl)).mono ?_
     rintro e w5 ⟨rfl, g8, g9, g3, HX⟩
     refine ⟨_, rfl, ?_⟩
     refine hK.out _ _ ⟨(blk_cell g9 0).trans rfl, (blk_cell g3 0).trans rfl⟩ (fun hHeld => ?_)
     clear hK K
     refine norm_ (a' := ?_) ?_ ?_
     rotate_left
     ·show Act.put _ (some 40) _ = _
      exact pz
     refine pure_ (i := 4) (N := some 41) (v := ?_) (a' := ?_) #[false, true, true, true, true, false, true, true, false, false] rfl rfl (any_of HT_.out (by kernel_rfl)) (fun _ _ _ h => (HPAN.out _ _ _ h).elim) (Or.inl ⟨by rfl, ?_⟩) ?_ ?_
     rotate_left
     ·intro w'
      go_simp
      with_reducible rfl
     rotate_left
     ·exact pz
     refine oneZ 0 (some 37) #[true, true, true, true, true, false, true, true, false, false] (one_of HT_.out (by kernel_rfl)) fun K hK => ?_
     have d8 : w5.cell? ⟨gb193, 0, none⟩ = some (.int .i64 s1) := (blk_cell g8 0).trans rfl
     refine value_ (v := .int .i64 s1) (w1 := w5) (by rfl) rfl (by go_simp) ?_
     refine hK.out _ _ hHeld (fun hHeld => ?_)
     clear hK K d8
     refine norm_ (a' := ?_) ?_ ?_
     rotate_left
     ·show Act.put _ (some 37) _ = _
      exact pz
     refine pure_ (i := 5) (N := some 42) (v := ?_) (a' := ?_) #[true, true, true, true, true, true, true, true, false, false] rfl rfl (any_of HT_.out (by kernel_rfl)) (fun _ _ _ h => (HPAN.out _ _ _ h).elim) (Or.inl ⟨by rfl, ?_⟩) ?_ ?_
     rotate_left
     ·intro w'
      go_simp
      with_reducible rfl
     rotate_left
     ·exact pz
     refine oneZ 8 (none) #[true, true, true, true, true, true, true, true, true, false] (one_of HT_.out (by kernel_rfl)) fun K hK => ?_
     have d8 : w5.cell? ⟨gb193, 0, none⟩ = some (.int .i64 s1) := (blk_cell g8 0).trans rfl
     have f8 : w5.frozen? ⟨gb193, 0, none⟩ = false := blk_frozen g8 0
     refine skip_ (w1 := ?_) (by rfl) rfl ?_ ?_
     rotate_left
     ·go_simp
      rfl
     have q9 := blk_ne_set (b := gb193) (i := 0) (u := .int .i64 (wrap64 (s1 + m1))) g9 (fun e => N89.out e.symm)
     have q3 := blk_ne_set (b := gb193) (i := 0) (u := .int .i64 (wrap64 (s1 + m1))) g3 N38.out
     refine hK.out _ _ ⟨(blk_cell q9 0).trans rfl, (blk_cell q3 0).trans rfl⟩ (fun hHeld => ?_)
     clear hK K d8 f8
     refine last_ (i := 9) (N := none) #[true, true, true, true, true, true, true, true, true, true] rfl rfl (one_of HT_.out (by kernel_rfl)) (by decide) (fun K hK => ?_)
     have d9 := (blk_cell q9 0).trans rfl
     have f9 := blk_frozen q9 0
     refine skip_ (w1 := ?_) (by rfl) rfl ?_ ?_
     rotate_left
     ·go_simp
      rfl
     refine hK.out _ _ ?_
     clear hK K
     refine done_ (done_of HT_.out (by kernel_rfl)) ?_
     exact HYES.out _ _ HX
   case done =>
    rintro D W hD ⟨⟨s, hs, h8, h9, h2, h3, h4, h6⟩, hB⟩ hK
    rw [HIT.out] at hs
    cases hs
    have H4 := m0 h4
    have HBB := m0 hB
    have H6 := m0 h6
    have HK := m0 hK
    have HD := m0 hD
    have E4 := m0 e4
    have HB0 := m0 hb0
    have L4 := m0 (blk_lt k4)
    have c8 : W.cell? ⟨gb193, 0, none⟩ = some (.int .i64 tot) := (blk_cell h8 0).trans rfl
    have c9 : W.cell? ⟨gb194, 0, none⟩ = some (.int .i64 cnt) := (blk_cell h9 0).trans rfl
    have c22 : W.cell? ⟨gb183, 2, none⟩ = some (.int .i64 a0_2) := (blk_cell h2 2).trans rfl
    have c23 : W.cell? ⟨gb183, 3, none⟩ = some (.int .i64 a0_3) := (blk_cell h2 3).trans rfl
    clear h8 h9 h2 h3 h4 hB h6 hz k2 k3 k4 k8 k9 ks kx hb0 hall h0 hbig hit hfr n89 n28 n29 n38 n39 n48 n49 e8 e9 e4 l8 l9 hrow hY hK hD
    go_wp2_with (first | (go_at_call 96; refine (line_fraction.calls k _ _ q1 q2 W HFR.out).mono ?_; rintro e w5 ⟨rfl, hb⟩; have g4 := blk_below H4.out hb; have z0 : w5.cell? ⟨gb185, 0, none⟩ = some (.int .i64 0) := (blk_cell g4 0).trans rfl; have z1 : w5.cell? ⟨gb185, 1, none⟩ = some (.int .i64 0) := (blk_cell g4 1).trans rfl; have f0 := blk_frozen g4 0; have f1 := blk_frozen g4 1; have HB5 := m0 hb; have G4 := m0 g4; clear hb g4))
    have hK5 : w5.heap[D]? = some (.deferred (some [])) := blk_below HK.out HB5.out
    have hD := HD.out
    have l4 := L4.out
    have e4 := E4.out
    have hK6 : ((w5.setCell ⟨gb185, 0, none⟩ (.int .i64 q1)).setCell ⟨gb185, 1, none⟩ (.int .i64 q2)).heap[D]? = some (.deferred (some [])) := blk_ne_set (blk_ne_set hK5 (by omega)) (by omega)
    refine ⟨by simp, .inl ⟨_, _, rfl, run_takeDeferred hK6, ?_⟩⟩
    have b1 : Below w.heap.size w ((w5.setCell ⟨gb185, 0, none⟩ (.int .i64 q1)).setCell ⟨gb185, 1, none⟩ (.int .i64 q2)) :=
     ((HBB.out.trans (HB5.out.mono HBB.out.size)).setCell (p := ⟨gb185, 0, none⟩) e4 _).setCell (p := ⟨gb185, 1, none⟩) e4 _
    exact ⟨_, results_ct rfl _ _ gb185 26 #[.int .i64 q1, .int .i64 q2] (0, 0) _ rfl ((World.putObj_heap_other (show gb185 ≠ D by omega)).trans (blk_put (cs := #[.int .i64 q1, .int .i64 0]) (blk_put (cs := #[.int .i64 0, .int .i64 0]) G4.out 0 _ rfl) 1 _ rfl)) Tryd.underlying26 rfl (by kernel_rfl), rfl, b1.trans (belowK_b (w := w) (Nat.le_refl _) _ D _ _ (Nat.le_trans HB0.out.size hD) hK6 rfl rfl)⟩
  ·rw [if_neg c8] at H
   have c8b0 := beq_eq_false_iff_ne.mpr c8
   have c8b1 := bne_iff_ne.mpr c8
   simp only [Option.some.injEq, Prod.mk.injEq] at H
   obtain ⟨rfl, rfl, rfl⟩ := H
   refine (callsIn_wide (n := 9)).1 (callsIn_of_wp_marks Tryd.func20 rfl trivial (wpIn_mono (Q := QM 9 Tryd.prog Tryd.f20 _) (wpIn_wide.2 ?_) (fun _ _ _ h => QM.le h)) rfl)
   simp only [Tryd.ntmps20, List.size_toArray, List.length_cons, List.length_nil, Nat.reduceAdd, Nat.reduceSub, Array.replicate_succ, Array.replicate_zero, List.push_toArray, List.append_toArray, List.nil_append, List.cons_append]
   try go_wp2_with (first | ((with_reducible refine gate_dst (N := 2) rfl ?_); refine be 2 28 #[.slice A0_0 l0_0.length c0_0, .slice A0_1 l0_1.length c0_1, .int .i64 a0_2, .int .i64 a0_3] ?_; intro gb183 hg w33 hbox hb; have BK183 := m0 hbox; have GW183 := m0 (bg (n := w.heap.size) hg); have GE183 := m0 (bg (n := w.heap.size) hg); replace HB := sb HB hb; clear hb hbox hg) | ((with_reducible refine gate_dst (N := 3) rfl ?_); refine be 3 3 #[.int .i64 a1] ?_; intro gb184 hg w34 hbox hb; have BK184 := m0 hbox; have GW184 := m0 (bg (n := w.heap.size) hg); have GE184 := m0 (bg (n := w.heap.size) hg); replace HB := sb HB hb; have NB183_184 := nl BK183 hg; have NB184_183 := ng (nl BK183 hg); replace BK183 := bb BK183 hb; clear hb hbox hg) | ((with_reducible refine gate_dst (N := 4) rfl ?_); refine be 4 26 #[.int .i64 0, .int .i64 0] ?_; intro gb185 hg w35 hbox hb; have BK185 := m0 hbox; have GW185 := m0 (bg (n := w.heap.size) hg); have GE185 := m0 (bg (n := w.heap.size) hg); replace HB := sb HB hb; have NB183_185 := nl BK183 hg; have NB185_183 := ng (nl BK183 hg); replace BK183 := bb BK183 hb; have NB184_185 := nl BK184 hg; have NB185_184 := ng (nl BK184 hg); replace BK184 := bb BK184 hb; clear hb hbox hg; have hnb36 := NB184_183.out; have hnc36 := NB183_184.out; have hnb37 := NB184_185.out; have hnc37 := NB185_184.out; obtain ⟨_, _⟩ := b1 BK184))
   replace BK183 := bd BK183; replace BK184 := bd BK184; replace BK185 := bd BK185; replace HB := sd HB
   refine start_ (n := 9) (S := fun w' => w'.cell? ⟨gb183, 0, none⟩ = some (.slice A0_0 l0_0.length c0_0) ∧ w'.cell? ⟨gb183, 1, none⟩ = some (.slice A0_1 l0_1.length c0_1) ∧ w'.cell? ⟨gb183, 2, none⟩ = some (.int .i64 a0_2) ∧ w'.cell? ⟨gb183, 3, none⟩ = some (.int .i64 a0_3) ∧ w'.cell? ⟨gb184, 0, none⟩ = some (.int .i64 a1)) (ds := []) #[false, false, false, false, false, false, false, false, false] (by kernel_rfl) rfl rfl cz (fun hHeld => ?_); refine with_tabW line_BiasOf.tab2 line_BiasOf.bits2 (fun HT_ HW_ => ?_)
   generalize w35.drew = w39 at BK183 BK184 BK185 HB hHeld ⊢
   refine pureZ (i := 4) (N := some 22) #[false, false, false, false, true, false, false, false, false] HT_ ?_
   refine takeZ 0 (some 18) #[true, false, false, false, true, false, false, false, false] (take_ofW HT_.out HW_.out (by kernel_rfl)) hHeld ?_
   refine takeZ 2 (some 20) #[true, false, true, false, true, false, false, false, false] (take_ofW HT_.out HW_.out (by kernel_rfl)) hHeld ?_
   refine oneZ 1 (some 19) #[true, true, true, false, true, false, false, false, false] (one_of HT_.out (by kernel_rfl)) fun K hK => ?_
   refine goes_ Tryd.func53 (by kernel_rfl) rfl #[.agg #[.slice A0_0 l0_0.length c0_0, .slice A0_1 l0_1.length c0_1, .int .i64 a0_2, .int .i64 a0_3]] (by rfl) rfl rfl mz ?_
   with_reducible refine (line_CheckCase.calls k _ _ l0_0 _ _ l0_1 a0_2 a0_3 t186 _ ?side1 ?side2 ?side3 ?side4 A4.out).mono ?_
   (case side1 => exact cb HR0_0 HB)
   (case side2 => exact HC0_0.out)
   (case side3 => exact cb HR0_1 HB)
   (case side4 => exact HC0_1.out)
   rintro e w40 ⟨rfl, hb⟩
   refine ⟨_, rfl, ?_⟩
   replace BK183 := bb BK183 hb; replace BK184 := bb BK184 hb; replace BK185 := bb BK185 hb; replace HB := sb HB hb
   (try clear hb)
   refine hK.out _ _ cz (fun hHeld => ?_)
   clear hK K
   refine norm_ (a' := ?_) ?_ ?_
   rotate_left
   ·show Act.put _ (some 19) _ = _
    exact pz
   refine oneZ 3 (some 21) #[true, true, true, true, true, false, false, false, false] (one_of HT_.out (by kernel_rfl)) fun K hK => ?_
   refine goes_ Tryd.func92 (by kernel_rfl) rfl #[.int .i64 a1] (by rfl) rfl rfl mz ?_
   with_reducible refine (line_kindErr.calls a1 t187 _ A5.out).mono ?_
   rintro e w' ⟨rfl, ⟨nd, rfl⟩⟩
   refine ⟨_, rfl, ?_⟩
   refine hK.out _ _ cz (fun hHeld => ?_)
   clear hK K
   refine norm_ (a' := ?_) ?_ ?_
   rotate_left
   ·show Act.put _ (some 21) _ = _
    exact pz
   refine oneZ 5 (some 23) #[true, true, true, true, true, true, false, false, false] (one_of HT_.out (by kernel_rfl)) fun K hK => ?_
   refine goes_ Tryd.func93 (by kernel_rfl) rfl #[.bool true, .int .i64 14] (by rfl) rfl rfl mz ?_
   with_reducible refine (line_unless.calls true 14 t188 _ A6.out).mono ?_
   rintro e w' ⟨rfl, ⟨nd, rfl⟩⟩
   refine ⟨_, rfl, ?_⟩
   refine hK.out _ _ cz (fun hHeld => ?_)
   clear hK K
   refine norm_ (a' := ?_) ?_ ?_
   rotate_left
   ·show Act.put _ (some 23) _ = _
    exact pz
   refine oneZ 6 (some 24) #[true, true, true, true, true, true, true, false, false] (one_of HT_.out (by kernel_rfl)) fun K hK => ?_
   refine Kd.R_lit_step (Kd.int .i64) _ 31 ?hg (N := 24) ?hd (xs := ([t186, t187, t188] : List Int)) (inner := [.int .i64 t186, .int .i64 t187, .int .i64 t188]) (ok := fun _ => True) (okp := fun _ => True) ?hr ?hp (fun _ hk => hk) trivial (Below.refl _ _) (Nat.le_refl _) (by simp) ?_; (case hd => rfl); (case hg => rfl); (case hr => first | (go_simp; done) | (go_simp; rfl)); (case hp => exact (Reps.one (show Kd.M (Kd.int .i64) _ _ _ t186 [.int .i64 t186] from rfl) (Reps.one (show Kd.M (Kd.int .i64) _ _ _ t187 [.int .i64 t187] from rfl) (Reps.one (show Kd.M (Kd.int .i64) _ _ _ t188 [.int .i64 t188] from rfl) (Reps.none _ _)))))
   intro v190 w41 ho42 hb hg_ hnew_
   clear hg_ hnew_
   (first | rw [← Ny189.out] at ho42 | (simp only [Int.reduceToNat] at ho42; rw [← Ny189.out] at ho42))
   have HO191 := m0 (Kd.R_lower ho42 (below_size bz)); replace BK183 := bb BK183 hb; replace BK184 := bb BK184 hb; replace BK185 := bb BK185 hb; replace HB := sb HB hb
   clear hb ho42
   obtain ⟨Ao43, co43, eo43⟩ := Kd.R_slice HO191.out
   (first | subst eo43 | (injection eo43 with f1_ f2_ f3_; have f4_ := f1_.symm; have f5_ := f3_.symm; clear f1_ f2_ f3_; subst f4_; subst f5_))
   refine hK.out _ _ cz (fun hHeld => ?_)
   clear hK K
   refine norm_ (a' := ?_) ?_ ?_
   rotate_left
   ·show Act.put _ (some 24) _ = _
    exact pz
   refine oneZ 7 (some 25) #[true, true, true, true, true, true, true, true, false] (one_of HT_.out (by kernel_rfl)) fun K hK => ?_
   refine goes_ Tryd.func91 (by kernel_rfl) rfl #[.slice Ao43 y189.length co43] (by rfl) rfl rfl mz ?_
   with_reducible refine (line_first.calls k _ _ y189 t192 _ ?side1 ?side2 A7.out).mono ?_
   (case side1 => exact bc (Kd.R_reads' HO191.out).2.2)
   (case side2 => exact (Kd.R_reads' HO191.out).2.1)
   rintro e w' ⟨rfl, ⟨nd, rfl⟩⟩
   refine ⟨_, rfl, ?_⟩
   refine hK.out _ _ cz (fun hHeld => ?_)
   clear hK K
   refine norm_ (a' := ?_) ?_ ?_
   rotate_left
   ·show Act.put _ (some 25) _ = _
    exact pz
   refine pureZ (i := 8) (N := some 7) #[true, true, true, true, true, true, true, true, true] HT_ ?_
   refine done_ (done_of HT_.out (by kernel_rfl)) ?_
   have hnb44 := NB185_183.out
   have hnc44 := NB183_185.out
   obtain ⟨_, _, _, _⟩ := b2 BK185
   try go_wp2
   refine bodyPostM_ret (results_ct rfl _ _ gb185 26 #[.int .i64 0, .int .i64 0] (0, 0) _ rfl (bq BK185.out) Tryd.underlying26 rfl (by kernel_rfl)) rfl ?_
   exact ez
 ·rw [if_neg c3] at H
  have c3b0 := beq_eq_false_iff_ne.mpr c3
  have c3b1 := bne_iff_ne.mpr c3
  replace H := ob H
  obtain ⟨t195, A460, H⟩ := H
  (try dsimp only at H)
  have A46 := m0 A460
  clear A460
  replace H := ob H
  obtain ⟨t196, A470, H⟩ := H
  (try dsimp only at H)
  have A47 := m0 A470
  clear A470
  replace H := ob H
  obtain ⟨t197, A480, H⟩ := H
  (try dsimp only at H)
  have A48 := m0 A480
  clear A480
  obtain ⟨y198, hy198⟩ : ∃ y_ : List Int, y_ = (([t195, t196, t197] : List Int)) := ⟨_, rfl⟩
  replace H : ((line_first.f k y198).bind fun t201 => (if t201 = 0 then (line_BiasOf_rest.f k l0_0 l0_1 a0_2 a0_3 a1) else (some (0, 0, t201)))) = some (r1, r2, r3) := by first | (rw [hy198]; with_reducible exact H) | (have H2_ := (Option.bind_some _ _).symm.trans H; rw [hy198]; with_reducible exact H2_) | (have H2_ := (Option.bind_some _ _).symm.trans H; with_reducible exact H2_) | with_reducible exact H | (rw [hy198]; exact H) | exact H
  have Ny198 := m0 hy198
  clear hy198
  replace H := ob H
  obtain ⟨t201, A490, H⟩ := H
  (try dsimp only at H)
  have A49 := m0 A490
  clear A490
  by_cases c50 : t201 = 0
  ·rw [if_pos c50] at H
   have c50b0 := beq_iff_eq.mpr c50
   have c50b1 := bne_eq_false_iff_eq.mpr c50
   clear c50
   refine (callsIn_wide (n := 9)).1 (callsIn_of_wp_marks Tryd.func20 rfl trivial (wpIn_mono (Q := QM 9 Tryd.prog Tryd.f20 _) (wpIn_wide.2 ?_) (fun _ _ _ h => QM.le h)) rfl)
   simp only [Tryd.ntmps20, List.size_toArray, List.length_cons, List.length_nil, Nat.reduceAdd, Nat.reduceSub, Array.replicate_succ, Array.replicate_zero, List.push_toArray, List.append_toArray, List.nil_append, List.cons_append]
   try go_wp2_with (first | ((with_reducible refine gate_dst (N := 2) rfl ?_); refine be 2 28 #[.slice A0_0 l0_0.length c0_0, .slice A0_1 l0_1.length c0_1, .int .i64 a0_2, .int .i64 a0_3] ?_; intro gb183 hg w51 hbox hb; have BK183 := m0 hbox; have GW183 := m0 (bg (n := w.heap.size) hg); have GE183 := m0 (bg (n := w.heap.size) hg); replace HB := sb HB hb; clear hb hbox hg) | ((with_reducible refine gate_dst (N := 3) rfl ?_); refine be 3 3 #[.int .i64 a1] ?_; intro gb184 hg w52 hbox hb; have BK184 := m0 hbox; have GW184 := m0 (bg (n := w.heap.size) hg); have GE184 := m0 (bg (n := w.heap.size) hg); replace HB := sb HB hb; have NB183_184 := nl BK183 hg; have NB184_183 := ng (nl BK183 hg); replace BK183 := bb BK183 hb; clear hb hbox hg) | ((with_reducible refine gate_dst (N := 4) rfl ?_); refine be 4 26 #[.int .i64 0, .int .i64 0] ?_; intro gb185 hg w53 hbox hb; have BK185 := m0 hbox; have GW185 := m0 (bg (n := w.heap.size) hg); have GE185 := m0 (bg (n := w.heap.size) hg); replace HB := sb HB hb; have NB183_185 := nl BK183 hg; have NB185_183 := ng (nl BK183 hg); replace BK183 := bb BK183 hb; have NB184_185 := nl BK184 hg; have NB185_184 := ng (nl BK184 hg); replace BK184 := bb BK184 hb; clear hb hbox hg; have hnb54 := NB184_183.out; have hnc54 := NB183_184.out; have hnb55 := NB184_185.out; have hnc55 := NB185_184.out; obtain ⟨_, _⟩ := b1 BK184))
   replace BK183 := bd BK183; replace BK184 := bd BK184; replace BK185 := bd BK185; replace HB := sd HB
   refine start_ (n := 9) (S := fun w' => w'.cell? ⟨gb183, 0, none⟩ = some (.slice A0_0 l0_0.length c0_0) ∧ w'.cell? ⟨gb183, 1, none⟩ = some (.slice A0_1 l0_1.length c0_1) ∧ w'.cell? ⟨gb183, 2, none⟩ = some (.int .i64 a0_2) ∧ w'.cell? ⟨gb183, 3, none⟩ = some (.int .i64 a0_3) ∧ w'.cell? ⟨gb184, 0, none⟩ = some (.int .i64 a1)) (ds := []) #[false, false, false, false, false, false, false, false, false] (by kernel_rfl) rfl rfl cz (fun hHeld => ?_); refine with_tabW line_BiasOf.tab2 line_BiasOf.bits2 (fun HT_ HW_ => ?_)
   generalize w53.drew = w57 at BK183 BK184 BK185 HB hHeld ⊢
   refine pureZ (i := 4) (N := some 22) #[false, false, false, false, true, false, false, false, false] HT_ ?_
   refine takeZ 0 (some 18) #[true, false, false, false, true, false, false, false, false] (take_ofW HT_.out HW_.out (by kernel_rfl)) hHeld ?_
   refine takeZ 2 (some 20) #[true, false, true, false, true, false, false, false, false] (take_ofW HT_.out HW_.out (by kernel_rfl)) hHeld ?_
   refine oneZ 1 (some 19) #[true, true, true, false, true, false, false, false, false] (one_of HT_.out (by kernel_rfl)) fun K hK => ?_
   refine goes_ Tryd.func53 (by kernel_rfl) rfl #[.agg #[.slice A0_0 l0_0.length c0_0, .slice A0_1 l0_1.length c0_1, .int .i64 a0_2, .int .i64 a0_3]] (by rfl) rfl rfl mz ?_
   with_reducible refine (line_CheckCase.calls k _ _ l0_0 _ _ l0_1 a0_2 a0_3 t195 _ ?side1 ?side2 ?side3 ?side4 A46.out).mono ?_
   (case side1 => exact cb HR0_0 HB)
   (case side2 => exact HC0_0.out)
   (case side3 => exact cb HR0_1 HB)
   (case side4 => exact HC0_1.out)
   rintro e w58 ⟨rfl, hb⟩
   refine ⟨_, rfl, ?_⟩
   replace BK183 := bb BK183 hb; replace BK184 := bb BK184 hb; replace BK185 := bb BK185 hb; replace HB := sb HB hb
   (try clear hb)
   refine hK.out _ _ cz (fun hHeld => ?_)
   clear hK K
   refine norm_ (a' := ?_) ?_ ?_
   rotate_left
   ·show Act.put _ (some 19) _ = _
    exact pz
   refine oneZ 3 (some 21) #[true, true, true, true, true, false, false, false, false] (one_of HT_.out (by kernel_rfl)) fun K hK => ?_
   refine goes_ Tryd.func92 (by kernel_rfl) rfl #[.int .i64 a1] (by rfl) rfl rfl mz ?_
   with_reducible refine (line_kindErr.calls a1 t196 _ A47.out).mono ?_
   rintro e w' ⟨rfl, ⟨nd, rfl⟩⟩
   refine ⟨_, rfl, ?_⟩
   refine hK.out _ _ cz (fun hHeld => ?_)
   clear hK K
   refine norm_ (a' := ?_) ?_ ?_
   rotate_left
   ·show Act.put _ (some 21) _ = _
    exact pz
   refine oneZ 5 (some 23) #[true, true, true, true, true, true, false, false, false] (one_of HT_.out (by kernel_rfl)) fun K hK => ?_
   refine goes_ Tryd.func93 (by kernel_rfl) rfl #[.bool (a1 == 3), .int .i64 14] (by rfl) rfl rfl mz ?_
   with_reducible refine (line_unless.calls (a1 == 3) 14 t197 _ A48.out).mono ?_
   rintro e w' ⟨rfl, ⟨nd, rfl⟩⟩
   refine ⟨_, rfl, ?_⟩
   refine hK.out _ _ cz (fun hHeld => ?_)
   clear hK K
   refine norm_ (a' := ?_) ?_ ?_
   rotate_left
   ·show Act.put _ (some 23) _ = _
    exact pz
   refine oneZ 6 (some 24) #[true, true, true, true, true, true, true, false, false] (one_of HT_.out (by kernel_rfl)) fun K hK => ?_
   refine Kd.R_lit_step (Kd.int .i64) _ 31 ?hg (N := 24) ?hd (xs := ([t195, t196, t197] : List Int)) (inner := [.int .i64 t195, .int .i64 t196, .int .i64 t197]) (ok := fun _ => True) (okp := fun _ => True) ?hr ?hp (fun _ hk => hk) trivial (Below.refl _ _) (Nat.le_refl _) (by simp) ?_; (case hd => rfl); (case hg => rfl); (case hr => first | (go_simp; done) | (go_simp; rfl)); (case hp => exact (Reps.one (show Kd.M (Kd.int .i64) _ _ _ t195 [.int .i64 t195] from rfl) (Reps.one (show Kd.M (Kd.int .i64) _ _ _ t196 [.int .i64 t196] from rfl) (Reps.one (show Kd.M (Kd.int .i64) _ _ _ t197 [.int .i64 t197] from rfl) (Reps.none _ _)))))
   intro v199 w59 ho60 hb hg_ hnew_
   clear hg_ hnew_
   (first | rw [← Ny198.out] at ho60 | (simp only [Int.reduceToNat] at ho60; rw [← Ny198.out] at ho60))
   have HO200 := m0 (Kd.R_lower ho60 (below_size bz)); replace BK183 := bb BK183 hb; replace BK184 := bb BK184 hb; replace BK185 := bb BK185 hb; replace HB := sb HB hb
   clear hb ho60
   obtain ⟨Ao61, co61, eo61⟩ := Kd.R_slice HO200.out
   (first | subst eo61 | (injection eo61 with f1_ f2_ f3_; have f4_ := f1_.symm; have f5_ := f3_.symm; clear f1_ f2_ f3_; subst f4_; subst f5_))
   refine hK.out _ _ cz (fun hHeld => ?_)
   clear hK K
   refine norm_ (a' := ?_) ?_ ?_
   rotate_left
   ·show Act.put _ (some 24) _ = _
    exact pz
   refine oneZ 7 (some 25) #[true, true, true, true, true, true, true, true, false] (one_of HT_.out (by kernel_rfl)) fun K hK => ?_
   refine goes_ Tryd.func91 (by kernel_rfl) rfl #[.slice Ao61 y198.length co61] (by rfl) rfl rfl mz ?_
   with_reducible refine (line_first.calls k _ _ y198 t201 _ ?side1 ?side2 A49.out).mono ?_
   (case side1 => exact bc (Kd.R_reads' HO200.out).2.2)
   (case side2 => exact (Kd.R_reads' HO200.out).2.1)
   rintro e w' ⟨rfl, ⟨nd, rfl⟩⟩
   refine ⟨_, rfl, ?_⟩
   refine hK.out _ _ cz (fun hHeld => ?_)
   clear hK K
   refine norm_ (a' := ?_) ?_ ?_
   rotate_left
   ·show Act.put _ (some 25) _ = _
    exact pz
   refine pureZ (i := 8) (N := some 7) #[true, true, true, true, true, true, true, true, true] HT_ ?_
   refine done_ (done_of HT_.out (by kernel_rfl)) ?_
   try go_wp2_with (first | ((with_reducible refine gate_dst (N := 8) rfl ?_); refine be 8 3 #[.int .i64 0] ?_; intro gb202 hg w62 hbox hb; replace HO200 := rb HO200 hb; have BK202 := m0 hbox; have GW202 := m0 (bg (n := w.heap.size) hg); have GE202 := m0 (bg (n := w.heap.size) hg); replace HB := sb HB hb; have NB183_202 := nl BK183 hg; have NB202_183 := ng (nl BK183 hg); replace BK183 := bb BK183 hb; have NB184_202 := nl BK184 hg; have NB202_184 := ng (nl BK184 hg); replace BK184 := bb BK184 hb; have NB185_202 := nl BK185 hg; have NB202_185 := ng (nl BK185 hg); replace BK185 := bb BK185 hb; clear hb hbox hg) | ((with_reducible refine gate_dst (N := 9) rfl ?_); refine be 9 3 #[.int .i64 0] ?_; intro gb203 hg w63 hbox hb; replace HO200 := rb HO200 hb; have BK203 := m0 hbox; have GW203 := m0 (bg (n := w.heap.size) hg); have GE203 := m0 (bg (n := w.heap.size) hg); replace HB := sb HB hb; have NB183_203 := nl BK183 hg; have NB203_183 := ng (nl BK183 hg); replace BK183 := bb BK183 hb; have NB184_203 := nl BK184 hg; have NB203_184 := ng (nl BK184 hg); replace BK184 := bb BK184 hb; have NB185_203 := nl BK185 hg; have NB203_185 := ng (nl BK185 hg); replace BK185 := bb BK185 hb; have NB202_203 := nl BK202 hg; have NB203_202 := ng (nl BK202 hg); replace BK202 := bb BK202 hb; clear hb hbox hg; have hnb64 := NB202_183.out; have hnc64 := NB183_202.out; have hnb65 := NB202_184.out; have hnc65 := NB184_202.out; have hnb66 := NB202_185.out; have hnc66 := NB185_202.out; have hnb67 := NB202_203.out; have hnc67 := NB203_202.out; obtain ⟨_, _⟩ := b1 BK202; have hnb69 := NB203_183.out; have hnc69 := NB183_203.out; have hnb70 := NB203_184.out; have hnc70 := NB184_203.out; have hnb71 := NB203_185.out; have hnc71 := NB185_203.out; obtain ⟨_, _⟩ := b1 BK203; have hnb73 := NB183_185.out; have hnc73 := NB185_183.out; obtain ⟨_, _, _, _, _, _, _, _⟩ := b4 BK183))
   go_wp2_with (first | (go_at_call 94; refine (line_each.calls_own _ _ _ _ _ _ _).mono ?_; rintro e w' ⟨rfl, rfl⟩))
   unfold line_BiasOf_rest.f at H
   obtain ⟨⟨all, few⟩, hall, H⟩ := ob H
   by_cases h0 : 0 ≤ all
   case neg => rw [if_neg h0] at H; exact absurd H (by simp)
   rw [if_pos h0] at H
   by_cases hbig : all ≤ 1000000
   case neg => rw [if_neg hbig] at H; exact absurd H (by simp)
   rw [if_pos hbig] at H
   obtain ⟨⟨tot, cnt⟩, hit, H⟩ := ob H
   obtain ⟨⟨q1, q2⟩, hfr, H⟩ := ob H
   simp only [Option.some.injEq, Prod.mk.injEq] at H
   obtain ⟨rfl, rfl, rfl⟩ := H
   replace hit : iterN (line_BiasOf_rest.step k l0_0 l0_1 a1) all.toNat (0, 0) = some (tot, cnt) := hit
   replace hfr : line_fraction.f k (wrap64 (wrap64 (tot * a0_3) - wrap64 (a0_2 * cnt))) (wrap64 (cnt * a0_3)) = some (q1, q2) := hfr
   replace hall : line_cases.f k l0_1 l0_0.length = some (all, few) := hall
   have n89 := NB202_203.out
   have n28 := NB183_202.out
   have n29 := NB183_203.out
   have n38 := NB184_202.out
   have n39 := NB184_203.out
   have n48 := NB185_202.out
   have n49 := NB185_203.out
   have e8 := GE202.out
   have e9 := GE203.out
   have e4 := GE185.out
   obtain ⟨Wb, hWb⟩ := world_of BK183.out
   subst hWb
   obtain ⟨W0, hW0⟩ : ∃ W0, (((Wb.setCell ⟨gb202, 0, none⟩ (.int .i64 0)).setCell ⟨gb203, 0, none⟩ (.int .i64 0)).alloc (.cells #[.slice A0_0 l0_0.length c0_0] 22)).alloc (.cells #[.slice A0_1 l0_1.length c0_1] 24) = W0 := ⟨_, rfl⟩
   have hz : W0.heap.size = Wb.heap.size + 2 := by rw [← hW0]; simp [World.setCell]
   have hb0 : Below w.heap.size w W0 := by rw [← hW0]; exact bz
   have k2 : W0.heap[gb183]? = some (.cells #[.slice A0_0 l0_0.length c0_0, .slice A0_1 l0_1.length c0_1, .int .i64 a0_2, .int .i64 a0_3] 28 (0, 0)) := by rw [← hW0]; exact (bq BK183.out)
   have k3 : W0.heap[gb184]? = some (.cells #[.int .i64 a1] 3 (0, 0)) := by rw [← hW0]; exact (bq BK184.out)
   have k4 : W0.heap[gb185]? = some (.cells #[.int .i64 0, .int .i64 0] 26 (0, 0)) := by rw [← hW0]; exact (bq BK185.out)
   have k8 : W0.heap[gb202]? = some (.cells #[.int .i64 0] 3 (0, 0)) := by rw [← hW0]; exact (by (with_reducible repeat (first | refine blk_drewN ?_ _ | refine blk_drew ?_ | refine blk_alloc ?_ _)); refine blk_far ?_ NB202_203.out _; (with_reducible repeat (first | refine blk_drewN ?_ _ | refine blk_drew ?_ | refine blk_alloc ?_ _)); refine blk_put (cs := #[.int .i64 0]) ?_ 0 _ rfl; (with_reducible repeat (first | refine blk_drewN ?_ _ | refine blk_drew ?_ | refine blk_alloc ?_ _)); exact BK202.out)
   have k9 : W0.heap[gb203]? = some (.cells #[.int .i64 0] 3 (0, 0)) := by rw [← hW0]; exact (by (with_reducible repeat (first | refine blk_drewN ?_ _ | refine blk_drew ?_ | refine blk_alloc ?_ _)); refine blk_put (cs := #[.int .i64 0]) ?_ 0 _ rfl; (with_reducible repeat (first | refine blk_drewN ?_ _ | refine blk_drew ?_ | refine blk_alloc ?_ _)); refine blk_far ?_ NB203_202.out _; (with_reducible repeat (first | refine blk_drewN ?_ _ | refine blk_drew ?_ | refine blk_alloc ?_ _)); exact BK203.out)
   have l8 := blk_lt BK202.out
   have l9 := blk_lt BK203.out
   have ks : W0.heap[Wb.heap.size]? = some (.cells #[.slice A0_0 l0_0.length c0_0] 22 (0, 0)) := by
    rw [← hW0]; apply blk_alloc
    have := blk_new ((Wb.setCell ⟨gb202, 0, none⟩ (.int .i64 0)).setCell ⟨gb203, 0, none⟩ (.int .i64 0)) (.cells #[.slice A0_0 l0_0.length c0_0] 22 (0, 0)); simpa [World.setCell] using this
   have kx : W0.heap[Wb.heap.size + 1]? = some (.cells #[.slice A0_1 l0_1.length c0_1] 24 (0, 0)) := by
    rw [← hW0]
    have := blk_new (((Wb.setCell ⟨gb202, 0, none⟩ (.int .i64 0)).setCell ⟨gb203, 0, none⟩ (.int .i64 0)).alloc (.cells #[.slice A0_0 l0_0.length c0_0] 22)) (.cells #[.slice A0_1 l0_1.length c0_1] 24 (0, 0)); simpa [World.setCell] using this
   rw [hW0]
   clear hW0
   have hrow : ∀ j : Nat, (j : Int) < all → line_noisy.f k l0_0 l0_1 j = some ((line_noisy.f k l0_0 l0_1 j).getD []) := fun j hj => by
    obtain ⟨q, hq⟩ := iterN_pre hit (show j ≤ all.toNat by omega)
    obtain ⟨q', hq', _⟩ := iterN_at hit (show j < all.toNat by omega) hq
    obtain ⟨row, hr, _⟩ := Option.bind_eq_some_iff.mp hq'
    rw [hr]; rfl
   have hY := line_each.yields 8 k (by decide) A0_0 A0_1 c0_0 c0_1 l0_0 l0_1 all few (fun j => (line_noisy.f k l0_0 l0_1 j).getD []) w (Wb.heap.size + 1) Wb.heap.size W0 hb0 ((blk_cell kx 0).trans rfl) ((blk_cell ks 0).trans rfl) HR0_0.out HC0_0.out HR0_1.out HC0_1.out hall h0 hbig hrow
   have HIT := m0 hit
   have HFR := m0 hfr
   have HY := m0 hY
   refine wpIn_wide.1 (wpIn_rangeN2 (n := 9) rfl (by decide) (gf := 131) (lb := #[.pointer (some ⟨Wb.heap.size + 1, 0, none⟩), .pointer (some ⟨Wb.heap.size, 0, none⟩)]) rfl trivial (enters_of Tryd.func131 (by kernel_rfl) rfl) HY.out
    (line_each.Rd_putObj) (fun h k => h.trans k) (fun W l o o' hl h hc hw => line_each.Kp_putObj (w := W0) (v1 := undef) (v2 := undef) (Nat.le_trans hb0.size (Nat.le_refl _)) W l o o' hl h hc hw (by omega) (by omega)) (Below.refl _ _) (fun _ _ => rfl)
    (fun j W => (∃ s : Int × Int, iterN (line_BiasOf_rest.step k l0_0 l0_1 a1) j (0, 0) = some s ∧ W.heap[gb202]? = some (.cells #[.int .i64 s.1] 3 (0, 0)) ∧ W.heap[gb203]? = some (.cells #[.int .i64 s.2] 3 (0, 0)) ∧ W.heap[gb183]? = some (.cells #[.slice A0_0 l0_0.length c0_0, .slice A0_1 l0_1.length c0_1, .int .i64 a0_2, .int .i64 a0_3] 28 (0, 0)) ∧ W.heap[gb184]? = some (.cells #[.int .i64 a1] 3 (0, 0)) ∧ W.heap[gb185]? = some (.cells #[.int .i64 0, .int .i64 0] 26 (0, 0)) ∧ W0.heap.size ≤ W.heap.size) ∧ Below w.heap.size w W)
    (fun _ _ _ => False)
    (OwnFrom.and (fun j A B row hs hg hr => by
     obtain ⟨s, h1, h2, h3, h4, h5, h6, h7⟩ := hs
     exact ⟨s, h1, blk_own h2 hg hr, blk_own h3 hg hr, blk_own h4 hg hr, blk_own h5 hg hr, blk_own h6 hg hr, Nat.le_trans h7 hg.size⟩) (ownFrom_below (Nat.le_refl _) hb0.size))
    (fun _ _ _ _ _ hs _ _ => hs)
    ⟨⟨(0, 0), rfl, k8, k9, k2, k3, k4, Nat.le_refl _⟩, hb0⟩ ?round ?done ?stop)
   case stop =>
    rintro D c j W _ _ h _
    exact h.elim
   case round =>
    intro l j x W K hj hK
    have HKK := m0 hK
    clear hK
    gi_wp2
    refine HKK.out _ ?_
    clear HKK
    rintro W ⟨⟨⟨s1, s2⟩, hs, h8, h9, h2, h3, h4, h6⟩, hB⟩ ⟨A, c, hx, hc, hC, hm⟩
    obtain ⟨q', hq', hq1⟩ := iterN_at HIT.out hj hs
    obtain ⟨row, hr, hq'⟩ := Option.bind_eq_some_iff.mp hq'
    obtain ⟨⟨m1, m2⟩, hmx, hq'⟩ := Option.bind_eq_some_iff.mp hq'
    have er : (line_noisy.f k l0_0 l0_1 (j : Int)).getD [] = row := by rw [hr]; rfl
    simp only [er] at hx hc hC
    subst hx
    obtain rfl := Option.some.inj hq'
    have hEst := EstG.below HG.out hB
    have hcall : ∀ W5 : World, W5.heap = W.heap → W5.os = W.os → W5.tape = W.tape → W5.output = W.output → Calls Tryd.prog 95 #[.slice A row.length c, .int .i64 a1] W5 fun e w5 => e = .returned (.agg #[.int .i64 m1, .int .i64 m2]) ∧ w5.heap[gb202]? = some (.cells #[.int .i64 s1] 3 (0, 0)) ∧ w5.heap[gb203]? = some (.cells #[.int .i64 s2] 3 (0, 0)) ∧ w5.heap[gb184]? = some (.cells #[.int .i64 a1] 3 (0, 0)) ∧ Aside0 (Below W.heap.size W w5) := fun W5 hh ho ht hp => by
     refine (Sp_estimate.calls k A c row a1 m1 m2 W5 (C_blocks hC (fun ad e => by rw [hh])) hc (EstG.below hEst ⟨ho, ht, hp, by rw [hh]; exact Nat.le_refl _, fun i _ => by rw [hh]⟩) hmx).mono ?_
     rintro e w5 ⟨rfl, hb⟩
     have hb' := below_heap hb hh ho ht hp
     exact ⟨rfl, blk_below h8 hb', blk_below h9 hb', blk_below h3 hb', ⟨hb'⟩⟩
    have HCALL := m0 hcall
    have hpan : ∀ c a w', ¬ leftN (line_each.Kp w.heap.size (Wb.heap.size + 1) Wb.heap.size) (fun j W => (∃ s : Int × Int, iterN (line_BiasOf_rest.step k l0_0 l0_1 a1) j (0, 0) = some s ∧ W.heap[gb202]? = some (.cells #[.int .i64 s.1] 3 (0, 0)) ∧ W.heap[gb203]? = some (.cells #[.int .i64 s.2] 3 (0, 0)) ∧ W.heap[gb183]? = some (.cells #[.slice A0_0 l0_0.length c0_0, .slice A0_1 l0_1.length c0_1, .int .i64 a0_2, .int .i64 a0_3] 28 (0, 0)) ∧ W.heap[gb184]? = some (.cells #[.int .i64 a1] 3 (0, 0)) ∧ W.heap[gb185]? = some (.cells #[.int .i64 0, .int .i64 0] 26 (0, 0)) ∧ W0.heap.size ≤ W.heap.size) ∧ Below w.heap.size w W) (fun _ _ _ => False) (j + 1) W (.panic c) a w' := fun _ _ _ h => h
    have hout : ¬ LetsOut (leftN (line_each.Kp w.heap.size (Wb.heap.size + 1) Wb.heap.size) (fun j W => (∃ s : Int × Int, iterN (line_BiasOf_rest.step k l0_0 l0_1 a1) j (0, 0) = some s ∧ W.heap[gb202]? = some (.cells #[.int .i64 s.1] 3 (0, 0)) ∧ W.heap[gb203]? = some (.cells #[.int .i64 s.2] 3 (0, 0)) ∧ W.heap[gb183]? = some (.cells #[.slice A0_0 l0_0.length c0_0, .slice A0_1 l0_1.length c0_1, .int .i64 a0_2, .int .i64 a0_3] 28 (0, 0)) ∧ W.heap[gb184]? = some (.cells #[.int .i64 a1] 3 (0, 0)) ∧ W.heap[gb185]? = some (.cells #[.int .i64 0, .int .i64 0] 26 (0, 0)) ∧ W0.heap.size ≤ W.heap.size) ∧ Below w.heap.size w W) (fun _ _ _ => False) (j + 1) W) := fun ⟨_, _, h⟩ => h
    generalize hLEFT : leftN _ _ _ _ _ = LEFT at hpan hout ⊢
    have hyes : ∀ (w7 : World) (a : Act), Aside0 (Below W.heap.size W w7) → LEFT Exit.normal a ((w7.setCell ⟨gb202, 0, none⟩ (.int .i64 (wrap64 (s1 + m1)))).setCell ⟨gb203, 0, none⟩ (.int .i64 (wrap64 (s2 + 1)))) := by
     intro w7 a hb'
     have hb := hb'.out
     rw [← hLEFT]
     have hsz := hb.size
     have g8 := blk_below h8 hb
     have g9 := blk_below h9 hb
     refine ⟨((others_below hb).trans (KeepsOthers.setCell _ _ _)).trans (KeepsOthers.setCell _ _ _), ((show line_each.Kp w.heap.size (Wb.heap.size + 1) Wb.heap.size W w7 from ⟨hb.mono (Nat.le_trans hb0.size h6), World.cell?_of_block (hb.block _ (show Wb.heap.size + 1 < _ by omega)), World.cell?_of_block (hb.block _ (show Wb.heap.size < _ by omega))⟩).setCell e8 (by omega) (by omega)).setCell e9 (by omega) (by omega), ⟨_, hq1, ?_, ?_, ?_, ?_, ?_, ?_⟩, ?_⟩
     ·exact blk_ne_set (blk_put g8 0 _ rfl) n89
     ·exact blk_put (blk_ne_set g9 (fun e => n89 e.symm)) 0 _ rfl
     ·exact blk_ne_set (blk_ne_set (blk_below h2 hb) n28) n29
     ·exact blk_ne_set (blk_ne_set (blk_below h3 hb) n38) n39
     ·exact blk_ne_set (blk_ne_set (blk_below h4 hb) n48) n49
     ·simpa [World.setCell] using Nat.le_trans h6 hsz
     ·exact ((hB.trans (hb.mono (Nat.le_trans hb0.size h6))).setCell (p := ⟨gb202, 0, none⟩) e8 _).setCell (p := ⟨gb203, 0, none⟩) e9 _
    have HYES := m0 hyes
    have N89 := m0 n89
    have N38 := m0 n38
    have HPAN := m0 hpan
    have HOUT := m0 hout
    have c8 : W.cell? ⟨gb202, 0, none⟩ = some (.int .i64 s1) := (blk_cell h8 0).trans rfl
    have c9 : W.cell? ⟨gb203, 0, none⟩ = some (.int .i64 s2) := (blk_cell h9 0).trans rfl
    have c3 : W.cell? ⟨gb184, 0, none⟩ = some (.int .i64 a1) := (blk_cell h3 0).trans rfl
    have hmo : Tryd.prog.follows .mixedOrders = true := by kernel_rfl
    clear hpan hout hyes hLEFT hcall hs hr hmx hq1 hC hm hB h8 h9 h2 h3 h4 h6 hc hj er hEst hrow hY k2 k3 k4 k8 k9 ks kx hb0 hz hall h0 hbig hit hfr n89 n28 n29 n38 n39 n48 n49 e8 e9 e4 l8 l9
    gi_wp2
    refine startR_ (S := fun w' => w'.cell? ⟨gb203, 0, none⟩ = some (.int .i64 s2) ∧ w'.cell? ⟨gb184, 0, none⟩ = some (.int .i64 a1)) (ds := [9]) #[false, false, false, false, false, false, false, false, false, false] hmo (by kernel_rfl) HOUT.out rfl rfl ⟨c9, c3⟩ (fun hHeld => ?_)
    refine with_tabW line_BiasOf_rest.tab8 line_BiasOf_rest.bits8 (fun HT_ HW_ => ?_)
    refine pure_ (i := 1) (N := some 38) (v := ?_) (a' := ?_) #[false, true, false, false, false, false, false, false, false, false] rfl rfl (any_of HT_.out (by kernel_rfl)) (fun _ _ _ h => (HPAN.out _ _ _ h).elim) (Or.inl ⟨by rfl, ?_⟩) ?_ ?_
    rotate_left
    ·intro w'
     go_simp
     with_reducible rfl
    rotate_left
    ·exact pz
    refine take_ (i := 2) (N := some 39) (v := ?_) (a' := ?_) #[false, true, true, false, false, false, false, false, false, false] rfl rfl (take_ofW HT_.out HW_.out (by kernel_rfl)) (fun _ _ _ h => (HPAN.out _ _ _ h).elim) (Or.inl ⟨by rfl, ?_⟩) hHeld ?_ ?_
    rotate_left
    ·rintro w' ⟨s0, s1⟩
     go_simp
     with_reducible rfl
    rotate_left
    ·exact pz
    refine take_ (i := 6) (N := some 43) (v := ?_) (a' := ?_) #[false, true, true, false, false, false, true, false, false, false] rfl rfl (take_ofW HT_.out HW_.out (by kernel_rfl)) (fun _ _ _ h => (HPAN.out _ _ _ h).elim) (Or.inl ⟨by rfl, ?_⟩) hHeld ?_ ?_
    rotate_left
    ·rintro w' ⟨s0, s1⟩
     go_simp
     with_reducible rfl
    rotate_left
    ·exact pz
    refine pure_ (i := 7) (N := some 44) (v := ?_) (a' := ?_) #[false, true, true, false, false, false, true, true, false, false] rfl rfl (any_of HT_.out (by kernel_rfl)) (fun _ _ _ h => (HPAN.out _ _ _ h).elim) (Or.inl ⟨by rfl, ?_⟩) ?_ ?_
    rotate_left
    ·intro w'
     go_simp
     with_reducible rfl
    rotate_left
    ·exact pz
    refine two_ (i := 0) (j := 3) (Ni := some 37) (Nj := some 40) #[true, true, true, false, false, false, true, true, false, false] #[false, true, true, true, false, false, true, true, false, false] rfl rfl rfl rfl (two_of HT_.out (by kernel_rfl)) (by decide) (by decide) (fun K hK => ?_) (fun K hK => ?_)
    ·refine value_ (v := .int .i64 s1) (w1 := W.drew) (by rfl) rfl (by go_simp) ?_
     refine hK.out _ _ hHeld (fun hHeld => ?_)
     clear hK K
     refine norm_ (a' := ?_) ?_ ?_
     rotate_left
     ·show Act.put _ (some 37) _ = _
      exact pz
     refine oneZ 3 (some 40) #[true, true, true, true, false, false, true, true, false, false] (one_of HT_.out (by kernel_rfl)) fun K hK => ?_
     refine goes_ Tryd.func95 (by kernel_rfl) rfl #[.slice A row.length c, .int .i64 a1] (by rfl) rfl rfl (by (try simp only [List.map_toArray, List.map_cons, List.map_nil]); first | done | rfl) ?_
     refine (HCALL.out _ (by rfl) (by rfl) (by rfl) (by rfl)).mono ?_
     rintro e w5 ⟨rfl, g8, g9, g3, HX⟩
     refine ⟨_, rfl, ?_⟩
     refine hK.out _ _ ⟨(blk_cell g9 0).trans rfl, (blk_cell g3 0).trans rfl⟩ (fun hHeld => ?_)
     clear hK K
     refine norm_ (a' := ?_) ?_ ?_
     rotate_left
     ·show Act.put _ (some 40) _ = _
      exact pz
     refine pure_ (i := 4) (N := some 41) (v := ?_) (a' := ?_) #[true, true, true, true, true, false, true, true, false, false] rfl rfl (any_of HT_.out (by kernel_rfl)) (fun _ _ _ h => (HPAN.out _ _ _ h).elim) (Or.inl ⟨by rfl, ?_⟩) ?_ ?_
     rotate_left
     ·intro w'
      go_simp
      with_reducible rfl
     rotate_left
     ·exact pz
     refine pure_ (i := 5) (N := some 42) (v := ?_) (a' := ?_) #[true, true, true, true, true, true, true, true, false, false] rfl rfl (any_of HT_.out (by kernel_rfl)) (fun _ _ _ h => (HPAN.out _ _ _ h).elim) (Or.inl ⟨by rfl, ?_⟩) ?_ ?_
     rotate_left
     ·intro w'
      go_simp
      with_reducible rfl
     rotate_left
     ·exact pz
     refine oneZ 8 (none) #[true, true, true, true, true, true, true, true, true, false] (one_of HT_.out (by kernel_rfl)) fun K hK => ?_
     have d8 : w5.cell? ⟨gb202, 0, none⟩ = some (.int .i64 s1) := (blk_cell g8 0).trans rfl
     have f8 : w5.frozen? ⟨gb202, 0, none⟩ = false := blk_frozen g8 0
     refine skip_ (w1 := ?_) (by rfl) rfl ?_ ?_
     rotate_left
     ·go_simp
      rfl
     have q9 := blk_ne_set (b := gb202) (i := 0) (u := .int .i64 (wrap64 (s1 + m1))) g9 (fun e => N89.out e.symm)
     have q3 := blk_ne_set (b := gb202) (i := 0) (u := .int .i64 (wrap64 (s1 + m1))) g3 N38.out
     refine hK.out _ _ ⟨(blk_cell q9 0).trans rfl, (blk_cell q3 0).trans rfl⟩ (fun hHeld => ?_)
     clear hK K d8 f8
     refine last_ (i := 9) (N := none) #[true, true, true, true, true, true, true, true, true, true] rfl rfl (one_of HT_.out (by kernel_rfl)) (by decide) (fun K hK => ?_)
     have d9 := (blk_cell q9 0).trans rfl
     have f9 := blk_frozen q9 0
     refine skip_ (w1 := ?_) (by rfl) rfl ?_ ?_
     rotate_left
     ·go_simp
      rfl
     refine hK.out _ _ ?_
     clear hK K
     refine done_ (done_of HT_.out (by kernel_rfl)) ?_
     exact HYES.out _ _ HX
    ·refine goes_ Tryd.func95 (by kernel_rfl) rfl #[.slice A row.length c, .int .i64 a1] (by rfl) rfl rfl (by (try simp only [List.map_toArray, List.map_cons, List.map_nil]); first | done | rfl) ?_
     refine (HCALL.out _ (by rfl) (by rfl) (by rfl) (by rfl)).mono ?_
     rintro e w5 ⟨rfl, g8, g9, g3, HX⟩
     refine ⟨_, rfl, ?_⟩
     refine hK.out _ _ ⟨(blk_cell g9 0).trans rfl, (blk_cell g3 0).trans rfl⟩ (fun hHeld => ?_)
     clear hK K
     refine norm_ (a' := ?_) ?_ ?_
     rotate_left
     ·show Act.put _ (some 40) _ = _
      exact pz
     refine pure_ (i := 4) (N := some 41) (v := ?_) (a' := ?_) #[false, true, true, true, true, false, true, true, false, false] rfl rfl (any_of HT_.out (by kernel_rfl)) (fun _ _ _ h => (HPAN.out _ _ _ h).elim) (Or.inl ⟨by rfl, ?_⟩) ?_ ?_
     rotate_left
     ·intro w'
      go_simp
      with_reducible rfl
     rotate_left
     ·exact pz
     refine oneZ 0 (some 37) #[true, true, true, true, true, false, true, true, false, false] (one_of HT_.out (by kernel_rfl)) fun K hK => ?_
     have d8 : w5.cell? ⟨gb202, 0, none⟩ = some (.int .i64 s1) := (blk_cell g8 0).trans rfl
     refine value_ (v := .int .i64 s1) (w1 := w5) (by rfl) rfl (by go_simp) ?_
     refine hK.out _ _ hHeld (fun hHeld => ?_)
     clear hK K d8
     refine norm_ (a' := ?_) ?_ ?_
     rotate_left
     ·show Act.put _ (some 37) _ = _
      exact pz
     refine pure_ (i := 5) (N := some 42) (v := ?_) (a' := ?_) #[true, true, true, true, true, true, true, true, false, false] rfl rfl (any_of HT_.out (by kernel_rfl)) (fun _ _ _ h => (HPAN.out _ _ _ h).elim) (Or.inl ⟨by rfl, ?_⟩) ?_ ?_
     rotate_left
     ·intro w'
      go_simp
      with_reducible rfl
     rotate_left
     ·exact pz
     refine oneZ 8 (none) #[true, true, true, true, true, true, true, true, true, false] (one_of HT_.out (by kernel_rfl)) fun K hK => ?_
     have d8 : w5.cell? ⟨gb202, 0, none⟩ = some (.int .i64 s1) := (blk_cell g8 0).trans rfl
     have f8 : w5.frozen? ⟨gb202, 0, none⟩ = false := blk_frozen g8 0
     refine skip_ (w1 := ?_) (by rfl) rfl ?_ ?_
     rotate_left
     ·go_simp
      rfl
     have q9 := blk_ne_set (b := gb202) (i := 0) (u := .int .i64 (wrap64 (s1 + m1))) g9 (fun e => N89.out e.symm)
     have q3 := blk_ne_set (b := gb202) (i := 0) (u := .int .i64 (wrap64 (s1 + m1))) g3 N38.out
     refine hK.out _ _ ⟨(blk_cell q9 0).trans rfl, (blk_cell q3 0).trans rfl⟩ (fun hHeld => ?_)
     clear hK K d8 f8
     refine last_ (i := 9) (N := none) #[true, true, true, true, true, true, true, true, true, true] rfl rfl (one_of HT_.out (by kernel_rfl)) (by decide) (fun K hK => ?_)
     have d9 := (blk_cell q9 0).trans rfl
     have f9 := blk_frozen q9 0
     refine skip_ (w1 := ?_) (by rfl) rfl ?_ ?_
     rotate_left
     ·go_simp
      rfl
     refine hK.out _ _ ?_
     clear hK K
     refine done_ (done_of HT_.out (by kernel_rfl)) ?_
     exact HYES.out _ _ HX
   case done =>
    rintro D W hD ⟨⟨s, hs, h8, h9, h2, h3, h4, h6⟩, hB⟩ hK
    rw [HIT.out] at hs
    cases hs
    have H4 := m0 h4
    have HBB := m0 hB
    have H6 := m0 h6
    have HK := m0 hK
    have HD := m0 hD
    have E4 := m0 e4
    have HB0 := m0 hb0
    have L4 := m0 (blk_lt k4)
    have c8 : W.cell? ⟨gb202, 0, none⟩ = some (.int .i64 tot) := (blk_cell h8 0).trans rfl
    have c9 : W.cell? ⟨gb203, 0, none⟩ = some (.int .i64 cnt) := (blk_cell h9 0).trans rfl
    have c22 : W.cell? ⟨gb183, 2, none⟩ = some (.int .i64 a0_2) := (blk_cell h2 2).trans rfl
    have c23 : W.cell? ⟨gb183, 3, none⟩ = some (.int .i64 a0_3) := (blk_cell h2 3).trans rfl
    clear h8 h9 h2 h3 h4 hB h6 hz k2 k3 k4 k8 k9 ks kx hb0 hall h0 hbig hit hfr n89 n28 n29 n38 n39 n48 n49 e8 e9 e4 l8 l9 hrow hY hK hD
    go_wp2_with (first | (go_at_call 96; refine (line_fraction.calls k _ _ q1 q2 W HFR.out).mono ?_; rintro e w5 ⟨rfl, hb⟩; have g4 := blk_below H4.out hb; have z0 : w5.cell? ⟨gb185, 0, none⟩ = some (.int .i64 0) := (blk_cell g4 0).trans rfl; have z1 : w5.cell? ⟨gb185, 1, none⟩ = some (.int .i64 0) := (blk_cell g4 1).trans rfl; have f0 := blk_frozen g4 0; have f1 := blk_frozen g4 1; have HB5 := m0 hb; have G4 := m0 g4; clear hb g4))
    have hK5 : w5.heap[D]? = some (.deferred (some [])) := blk_below HK.out HB5.out
    have hD := HD.out
    have l4 := L4.out
    have e4 := E4.out
    have hK6 : ((w5.setCell ⟨gb185, 0, none⟩ (.int .i64 q1)).setCell ⟨gb185, 1, none⟩ (.int .i64 q2)).heap[D]? = some (.deferred (some [])) := blk_ne_set (blk_ne_set hK5 (by omega)) (by omega)
    refine ⟨by simp, .inl ⟨_, _, rfl, run_takeDeferred hK6, ?_⟩⟩
    have b1 : Below w.heap.size w ((w5.setCell ⟨gb185, 0, none⟩ (.int .i64 q1)).setCell ⟨gb185, 1, none⟩ (.int .i64 q2)) :=
     ((HBB.out.trans (HB5.out.mono HBB.out.size)).setCell (p := ⟨gb185, 0, none⟩) e4 _).setCell (p := ⟨gb185, 1, none⟩) e4 _
    exact ⟨_, results_ct rfl _ _ gb185 26 #[.int .i64 q1, .int .i64 q2] (0, 0) _ rfl ((World.putObj_heap_other (show gb185 ≠ D by omega)).trans (blk_put (cs := #[.int .i64 q1, .int .i64 0]) (blk_put (cs := #[.int .i64 0, .int .i64 0]) G4.out 0 _ rfl) 1 _ rfl)) Tryd.underlying26 rfl (by kernel_rfl), rfl, b1.trans (belowK_b (w := w) (Nat.le_refl _) _ D _ _ (Nat.le_trans HB0.out.size hD) hK6 rfl rfl)⟩
  ·rw [if_neg c50] at H
   have c50b0 := beq_eq_false_iff_ne.mpr c50
   have c50b1 := bne_iff_ne.mpr c50
   simp only [Option.some.injEq, Prod.mk.injEq] at H
   obtain ⟨rfl, rfl, rfl⟩ := H
   refine (callsIn_wide (n := 9)).1 (callsIn_of_wp_marks Tryd.func20 rfl trivial (wpIn_mono (Q := QM 9 Tryd.prog Tryd.f20 _) (wpIn_wide.2 ?_) (fun _ _ _ h => QM.le h)) rfl)
   simp only [Tryd.ntmps20, List.size_toArray, List.length_cons, List.length_nil, Nat.reduceAdd, Nat.reduceSub, Array.replicate_succ, Array.replicate_zero, List.push_toArray, List.append_toArray, List.nil_append, List.cons_append]
   try go_wp2_with (first | ((with_reducible refine gate_dst (N := 2) rfl ?_); refine be 2 28 #[.slice A0_0 l0_0.length c0_0, .slice A0_1 l0_1.length c0_1, .int .i64 a0_2, .int .i64 a0_3] ?_; intro gb183 hg w75 hbox hb; have BK183 := m0 hbox; have GW183 := m0 (bg (n := w.heap.size) hg); have GE183 := m0 (bg (n := w.heap.size) hg); replace HB := sb HB hb; clear hb hbox hg) | ((with_reducible refine gate_dst (N := 3) rfl ?_); refine be 3 3 #[.int .i64 a1] ?_; intro gb184 hg w76 hbox hb; have BK184 := m0 hbox; have GW184 := m0 (bg (n := w.heap.size) hg); have GE184 := m0 (bg (n := w.heap.size) hg); replace HB := sb HB hb; have NB183_184 := nl BK183 hg; have NB184_183 := ng (nl BK183 hg); replace BK183 := bb BK183 hb; clear hb hbox hg) | ((with_reducible refine gate_dst (N := 4) rfl ?_); refine be 4 26 #[.int .i64 0, .int .i64 0] ?_; intro gb185 hg w77 hbox hb; have BK185 := m0 hbox; have GW185 := m0 (bg (n := w.heap.size) hg); have GE185 := m0 (bg (n := w.heap.size) hg); replace HB := sb HB hb; have NB183_185 := nl BK183 hg; have NB185_183 := ng (nl BK183 hg); replace BK183 := bb BK183 hb; have NB184_185 := nl BK184 hg; have NB185_184 := ng (nl BK184 hg); replace BK184 := bb BK184 hb; clear hb hbox hg; have hnb78 := NB184_183.out; have hnc78 := NB183_184.out; have hnb79 := NB184_185.out; have hnc79 := NB185_184.out; obtain ⟨_, _⟩ := b1 BK184))
   replace BK183 := bd BK183; replace BK184 := bd BK184; replace BK185 := bd BK185; replace HB := sd HB
   refine start_ (n := 9) (S := fun w' => w'.cell? ⟨gb183, 0, none⟩ = some (.slice A0_0 l0_0.length c0_0) ∧ w'.cell? ⟨gb183, 1, none⟩ = some (.slice A0_1 l0_1.length c0_1) ∧ w'.cell? ⟨gb183, 2, none⟩ = some (.int .i64 a0_2) ∧ w'.cell? ⟨gb183, 3, none⟩ = some (.int .i64 a0_3) ∧ w'.cell? ⟨gb184, 0, none⟩ = some (.int .i64 a1)) (ds := []) #[false, false, false, false, false, false, false, false, false] (by kernel_rfl) rfl rfl cz (fun hHeld => ?_); refine with_tabW line_BiasOf.tab2 line_BiasOf.bits2 (fun HT_ HW_ => ?_)
   generalize w77.drew = w81 at BK183 BK184 BK185 HB hHeld ⊢
   refine pureZ (i := 4) (N := some 22) #[false, false, false, false, true, false, false, false, false] HT_ ?_
   refine takeZ 0 (some 18) #[true, false, false, false, true, false, false, false, false] (take_ofW HT_.out HW_.out (by kernel_rfl)) hHeld ?_
   refine takeZ 2 (some 20) #[true, false, true, false, true, false, false, false, false] (take_ofW HT_.out HW_.out (by kernel_rfl)) hHeld ?_
   refine oneZ 1 (some 19) #[true, true, true, false, true, false, false, false, false] (one_of HT_.out (by kernel_rfl)) fun K hK => ?_
   refine goes_ Tryd.func53 (by kernel_rfl) rfl #[.agg #[.slice A0_0 l0_0.length c0_0, .slice A0_1 l0_1.length c0_1, .int .i64 a0_2, .int .i64 a0_3]] (by rfl) rfl rfl mz ?_
   with_reducible refine (line_CheckCase.calls k _ _ l0_0 _ _ l0_1 a0_2 a0_3 t195 _ ?side1 ?side2 ?side3 ?side4 A46.out).mono ?_
   (case side1 => exact cb HR0_0 HB)
   (case side2 => exact HC0_0.out)
   (case side3 => exact cb HR0_1 HB)
   (case side4 => exact HC0_1.out)
   rintro e w82 ⟨rfl, hb⟩
   refine ⟨_, rfl, ?_⟩
   replace BK183 := bb BK183 hb; replace BK184 := bb BK184 hb; replace BK185 := bb BK185 hb; replace HB := sb HB hb
   (try clear hb)
   refine hK.out _ _ cz (fun hHeld => ?_)
   clear hK K
   refine norm_ (a' := ?_) ?_ ?_
   rotate_left
   ·show Act.put _ (some 19) _ = _
    exact pz
   refine oneZ 3 (some 21) #[true, true, true, true, true, false, false, false, false] (one_of HT_.out (by kernel_rfl)) fun K hK => ?_
   refine goes_ Tryd.func92 (by kernel_rfl) rfl #[.int .i64 a1] (by rfl) rfl rfl mz ?_
   with_reducible refine (line_kindErr.calls a1 t196 _ A47.out).mono ?_
   rintro e w' ⟨rfl, ⟨nd, rfl⟩⟩
   refine ⟨_, rfl, ?_⟩
   refine hK.out _ _ cz (fun hHeld => ?_)
   clear hK K
   refine norm_ (a' := ?_) ?_ ?_
   rotate_left
   ·show Act.put _ (some 21) _ = _
    exact pz
   refine oneZ 5 (some 23) #[true, true, true, true, true, true, false, false, false] (one_of HT_.out (by kernel_rfl)) fun K hK => ?_
   refine goes_ Tryd.func93 (by kernel_rfl) rfl #[.bool (a1 == 3), .int .i64 14] (by rfl) rfl rfl mz ?_
   with_reducible refine (line_unless.calls (a1 == 3) 14 t197 _ A48.out).mono ?_
   rintro e w' ⟨rfl, ⟨nd, rfl⟩⟩
   refine ⟨_, rfl, ?_⟩
   refine hK.out _ _ cz (fun hHeld => ?_)
   clear hK K
   refine norm_ (a' := ?_) ?_ ?_
   rotate_left
   ·show Act.put _ (some 23) _ = _
    exact pz
   refine oneZ 6 (some 24) #[true, true, true, true, true, true, true, false, false] (one_of HT_.out (by kernel_rfl)) fun K hK => ?_
   refine Kd.R_lit_step (Kd.int .i64) _ 31 ?hg (N := 24) ?hd (xs := ([t195, t196, t197] : List Int)) (inner := [.int .i64 t195, .int .i64 t196, .int .i64 t197]) (ok := fun _ => True) (okp := fun _ => True) ?hr ?hp (fun _ hk => hk) trivial (Below.refl _ _) (Nat.le_refl _) (by simp) ?_; (case hd => rfl); (case hg => rfl); (case hr => first | (go_simp; done) | (go_simp; rfl)); (case hp => exact (Reps.one (show Kd.M (Kd.int .i64) _ _ _ t195 [.int .i64 t195] from rfl) (Reps.one (show Kd.M (Kd.int .i64) _ _ _ t196 [.int .i64 t196] from rfl) (Reps.one (show Kd.M (Kd.int .i64) _ _ _ t197 [.int .i64 t197] from rfl) (Reps.none _ _)))))
   intro v199 w83 ho84 hb hg_ hnew_
   clear hg_ hnew_
   (first | rw [← Ny198.out] at ho84 | (simp only [Int.reduceToNat] at ho84; rw [← Ny198.out] at ho84))
   have HO200 := m0 (Kd.R_lower ho84 (below_size bz)); replace BK183 := bb BK183 hb; replace BK184 := bb BK184 hb; replace BK185 := bb BK185 hb; replace HB := sb HB hb
   clear hb ho84
   obtain ⟨Ao85, co85, eo85⟩ := Kd.R_slice HO200.out
   (first | subst eo85 | (injection eo85 with f1_ f2_ f3_; have f4_ := f1_.symm; have f5_ := f3_.symm; clear f1_ f2_ f3_; subst f4_; subst f5_))
   refine hK.out _ _ cz (fun hHeld => ?_)
   clear hK K
   refine norm_ (a' := ?_) ?_ ?_
   rotate_left
   ·show Act.put _ (some 24) _ = _
    exact pz
   refine oneZ 7 (some 25) #[true, true, true, true, true, true, true, true, false] (one_of HT_.out (by kernel_rfl)) fun K hK => ?_
   refine goes_ Tryd.func91 (by kernel_rfl) rfl #[.slice Ao85 y198.length co85] (by rfl) rfl rfl mz ?_
   with_reducible refine (line_first.calls k _ _ y198 t201 _ ?side1 ?side2 A49.out).mono ?_
   (case side1 => exact bc (Kd.R_reads' HO200.out).2.2)
   (case side2 => exact (Kd.R_reads' HO200.out).2.1)
   rintro e w' ⟨rfl, ⟨nd, rfl⟩⟩
   refine ⟨_, rfl, ?_⟩
   refine hK.out _ _ cz (fun hHeld => ?_)
   clear hK K
   refine norm_ (a' := ?_) ?_ ?_
   rotate_left
   ·show Act.put _ (some 25) _ = _
    exact pz
   refine pureZ (i := 8) (N := some 7) #[true, true, true, true, true, true, true, true, true] HT_ ?_
   refine done_ (done_of HT_.out (by kernel_rfl)) ?_
   have hnb86 := NB185_183.out
   have hnc86 := NB183_185.out
   obtain ⟨_, _, _, _⟩ := b2 BK185
   try go_wp2
   refine bodyPostM_ret (results_ct rfl _ _ gb185 26 #[.int .i64 0, .int .i64 0] (0, 0) _ rfl (bq BK185.out) Tryd.underlying26 rfl (by kernel_rfl)) rfl ?_
   exact ez
end
section
def line_open.f (l0 : List Int) : Option (List Int × Int) := (line_CheckSpectrum.f l0).bind fun bt224 => (some (l0, bt224.2))
theorem line_open.calls (P0_ : Nat → Prop) (A0 : Option Addr) (c0 : Nat) (l0 : List Int) (r1 : List Int) (r2 : Int) (w : World) (hs0 : Kd.V (Kd.int .i64) 3 w w.heap.size (fun k_ => P0_ k_) (.slice A0 l0.length c0) l0) (h : line_open.f l0 = some (r1, r2)) :
  Calls Tryd.prog 102 #[.slice A0 l0.length c0] w fun e w' => ∃ v0_ : Value, e = .returned (.tuple #[v0_, .int .i64 r2]) ∧ Kd.V (Kd.int .i64) 3 w' w.heap.size (fun k_ => (P0_ k_ ∨ w.heap.size ≤ k_)) v0_ r1 ∧ Below w.heap.size w w' := by
 have HO0 := m0 (show Kd.V (Kd.int .i64) 3 w w.heap.size (fun k_ => (P0_ k_ ∨ w.heap.size ≤ k_)) (.slice A0 l0.length c0) l0 from Kd.V_mono hs0 (fun k_ hk => .inl hk))
 have HB := m0 (Below.refl w.heap.size w)
 have H : ((line_CheckSpectrum.f l0).bind fun bt224 => (some (l0, bt224.2))) = some (r1, r2) := h
 clear h
 replace H := ob H
 obtain ⟨⟨t224, t225⟩, A20, H⟩ := H
 (try dsimp only at H)
 have A2 := m0 A20
 clear A20
 simp only [Option.some.injEq, Prod.mk.injEq] at H
 obtain ⟨rfl, rfl⟩ := H
 go_enter Tryd.func102, Tryd.ntmps102
 go_wp2_with (first | ((with_reducible refine gate_callee (f := 75) rfl ?_); refine gl (some 8) Tryd.func75 #[.slice A0 l0.length c0] ?_; (with_reducible refine (line_CheckSpectrum.calls _ _ l0 t224 t225 _ ?side1 ?side2 A2.out).mono ?_); (case side1 => repeat (first | exact (Kd.V_reads' HO0.out).2.2 | (with_reducible refine Kd.C_alloc ?_ _) | (with_reducible refine Kd.C_drewN ?_ _) | (with_reducible refine Kd.C_drew ?_))); (case side2 => exact (Kd.V_reads' HO0.out).2.1); rintro e w3 ⟨rfl, hb⟩; refine ⟨_, rfl, ?_⟩; replace HO0 := m0 (Kd.V_below (by (with_reducible repeat (first | apply Kd.V_alloc | apply Kd.V_drewN | apply Kd.V_drew)); exact HO0.out) hb); replace HB := sb HB hb; (try clear hb)))
 go_ret2
 exact ⟨_, by first | rfl | (simp [errW_none, errW_some] <;> rfl) | (simp [*, errW_none, errW_some] <;> rfl), by (with_reducible repeat (first | apply Kd.V_alloc | apply Kd.V_drewN | apply Kd.V_drew)); exact HO0.out, by repeat (first | (with_reducible first | exact HB.out | apply below_alloc | apply pw_below_drewN | apply below_drew1) | exact HB.out)⟩
end
section
def line_Estimated.f (k : Nat) (l0 : List Int) (a1 : Int) : Option (Int × Int × Int) := (line_open.f l0).bind fun bt227 => ((line_kindErr.f a1).bind fun t231 => ((line_first.f k (([bt227.2, t231] : List Int))).bind fun t235 => (if t235 = 0 then ((Sp_estimate.f k bt227.1 a1).bind fun bt236 => (some (bt236.1, bt236.2, 0))) else (some (0, 0, t235)))))
theorem line_Estimated.mono : ∀ a0 a1 k, LeO (line_Estimated.f k a0 a1) (line_Estimated.f (k + 1) a0 a1) := by
 intro a0 a1 k
 unfold line_Estimated.f
 repeat' first
   | (with_reducible exact line_first.mono _ _)
   | (with_reducible exact Sp_estimate.mono _ _ _)
   | (with_reducible exact LeO.refl _)
   | (with_reducible exact LeO.none _)
   | (with_reducible refine LeO.ite ?_ ?_)
   | (with_reducible refine LeO.bind ?_ (fun _ => ?_))
   | exact line_first.mono _ _
   | exact Sp_estimate.mono _ _ _
   | exact LeO.none _
   | refine LeO.ite ?_ ?_
   | refine LeO.bind ?_ (fun _ => ?_)
theorem line_Estimated.calls (k : Nat) (A0 : Option Addr) (c0 : Nat) (l0 : List Int) (a1 : Int) (r1 : Int) (r2 : Int) (r3 : Int) (w : World) (hr0 : Kd.C (Kd.int .i64) w A0 l0.length l0) (hc0 : l0.length ≤ c0) (hG : EstG w) (h : line_Estimated.f k l0 a1 = some (r1, r2, r3)) :
  Calls Tryd.prog 34 #[.slice A0 l0.length c0, .int .i64 a1] w fun e w' => e = .returned (.tuple #[.agg #[.int .i64 r1, .int .i64 r2], .int .i64 r3]) ∧ Below w.heap.size w w' := by
 have hu26 := Tryd.underlying26
 have HG := m0 hG
 clear hG
 have HR0 := m0 hr0
 have HC0 := m0 hc0
 clear hr0 hc0
 have HB := m0 (Below.refl w.heap.size w)
 have H : ((line_open.f l0).bind fun bt227 => ((line_kindErr.f a1).bind fun t231 => ((line_first.f k (([bt227.2, t231] : List Int))).bind fun t235 => (if t235 = 0 then ((Sp_estimate.f k bt227.1 a1).bind fun bt236 => (some (bt236.1, bt236.2, 0))) else (some (0, 0, t235)))))) = some (r1, r2, r3) := h
 clear h
 replace H := ob H
 obtain ⟨⟨t227, t230⟩, A30, H⟩ := H
 (try dsimp only at H)
 have A3 := m0 A30
 clear A30
 replace H := ob H
 obtain ⟨t231, A40, H⟩ := H
 (try dsimp only at H)
 have A4 := m0 A40
 clear A40
 obtain ⟨y232, hy232⟩ : ∃ y_ : List Int, y_ = (([t230, t231] : List Int)) := ⟨_, rfl⟩
 replace H : ((line_first.f k y232).bind fun t235 => (if t235 = 0 then ((Sp_estimate.f k t227 a1).bind fun bt236 => (some (bt236.1, bt236.2, 0))) else (some (0, 0, t235)))) = some (r1, r2, r3) := by first | (rw [hy232]; with_reducible exact H) | (have H2_ := (Option.bind_some _ _).symm.trans H; rw [hy232]; with_reducible exact H2_) | (have H2_ := (Option.bind_some _ _).symm.trans H; with_reducible exact H2_) | with_reducible exact H | (rw [hy232]; exact H) | exact H
 have Ny232 := m0 hy232
 clear hy232
 replace H := ob H
 obtain ⟨t235, A50, H⟩ := H
 (try dsimp only at H)
 have A5 := m0 A50
 clear A50
 by_cases c6 : t235 = 0
 ·rw [if_pos c6] at H
  have c6b0 := beq_iff_eq.mpr c6
  have c6b1 := bne_eq_false_iff_eq.mpr c6
  clear c6
  replace H := ob H
  obtain ⟨⟨t236, t237⟩, A70, H⟩ := H
  (try dsimp only at H)
  have A7 := m0 A70
  clear A70
  simp only [Option.some.injEq, Prod.mk.injEq] at H
  obtain ⟨rfl, rfl, rfl⟩ := H
  go_enter Tryd.func34, Tryd.ntmps34
  go_wp2_with (first | ((with_reducible refine gate_dst (N := 4) rfl ?_); refine be 4 26 #[.int .i64 0, .int .i64 0] ?_; intro gb226 hg w8 hbox hb; have BK226 := m0 hbox; have GW226 := m0 (bg (n := w.heap.size) hg); have GE226 := m0 (bg (n := w.heap.size) hg); replace HB := sb HB hb; clear hb hbox hg) | ((with_reducible refine gate_callee (f := 102) rfl ?_); refine gl (some 10) Tryd.func102 #[.slice A0 l0.length c0] ?_; (with_reducible refine (line_open.calls (fun k_ => k_ < w.heap.size) _ _ l0 t227 t230 _ ?side1 A3.out).mono ?_); (case side1 => exact Kd.V_mk HC0.out (Kd.F_below (Kd.C_F (Kd.heap_int .i64) HR0.out) bz)); rintro e w9 ⟨v228, rfl, ho0, hb⟩; refine ⟨_, rfl, ?_⟩; have HO229 := m0 (Kd.V_lower (Kd.V_mono (ok' := fun k_ => k_ ≠ gb226) ho0 (fun k_ hk_ => Or.elim hk_ (fun hs_ => fun e_ => Nat.not_le.2 hs_ (by rw [e_]; exact GW226.out)) (fun hn_ => (Kd.freshB (g := gb226) (o := .cells #[.int .i64 0, .int .i64 0] 26 (0, 0)) (bk BK226.out) k_ hn_)))) (below_size bz)); replace BK226 := bb BK226 hb; replace HB := sb HB hb; (try clear hb); (try clear ho0)) | ((with_reducible refine gate_callee (f := 92) rfl ?_); refine gl (some 15) Tryd.func92 #[.int .i64 a1] ?_; (with_reducible refine (line_kindErr.calls a1 t231 _ A4.out).mono ?_); rintro e w' ⟨rfl, ⟨nd, rfl⟩⟩; refine ⟨_, rfl, ?_⟩; (try (rw [drewN_self w9]; generalize hq_ : World.drewN w9 _ = w9; have n0_ : Aside0 (Kd.V (Kd.int .i64) 3 w9 w.heap.size (fun k_ => k_ ≠ gb226) v228 t227) := ⟨by rw [← hq_]; exact (by (with_reducible repeat (first | apply Kd.V_alloc | apply Kd.V_drewN | apply Kd.V_drew)); exact HO229.out)⟩; have n1_ := gd BK226 hq_; have n2_ := gs HB hq_; clear HO229 BK226 HB hq_; have HO229 := n0_; have BK226 := n1_; have HB := n2_; clear n0_ n1_ n2_))) | ((with_reducible refine gate_dst (N := 16) rfl ?_); refine Kd.R_lit (Kd.int .i64) _ 31 ?hg (N := 16) ?hd (xs := ([t230, t231] : List Int)) (inner := [.int .i64 t230, .int .i64 t231]) (ok := fun _ => True) (okp := fun _ => True) ?hr ?hp (fun _ hk => hk) trivial (Below.refl _ _) (Nat.le_refl _) (by simp) ?_; (case hd => rfl); (case hg => rfl); (case hr => first | (go_simp; done) | (go_simp; rfl)); (case hp => exact (Reps.one (show Kd.M (Kd.int .i64) _ _ _ t230 [.int .i64 t230] from rfl) (Reps.one (show Kd.M (Kd.int .i64) _ _ _ t231 [.int .i64 t231] from rfl) (Reps.none _ _)))); intro v233 w10 ho11 hb hg_ hnew_; clear hg_ hnew_; (first | rw [← Ny232.out] at ho11 | (simp only [Int.reduceToNat] at ho11; rw [← Ny232.out] at ho11)); replace HO229 := m0 (Kd.V_elder' (by (with_reducible repeat (first | apply Kd.V_alloc | apply Kd.V_drewN | apply Kd.V_drew)); exact HO229.out) (Kd.R_base ho11) hb); have HO234 := m0 (Kd.R_lower ho11 (below_size bz)); replace BK226 := bb BK226 hb; replace HB := sb HB hb; clear hb ho11; obtain ⟨Ao12, co12, eo12⟩ := Kd.R_slice HO234.out; subst eo12) | ((with_reducible refine gate_callee (f := 91) rfl ?_); refine gl (some 17) Tryd.func91 #[.slice Ao12 y232.length co12] ?_; (with_reducible refine (line_first.calls k _ _ y232 t235 _ ?side1 ?side2 A5.out).mono ?_); (case side1 => exact bc (Kd.R_reads' HO234.out).2.2); (case side2 => exact (Kd.R_reads' HO234.out).2.1); rintro e w' ⟨rfl, ⟨nd, rfl⟩⟩; refine ⟨_, rfl, ?_⟩; (try (rw [drewN_self w10]; generalize hq_ : World.drewN w10 _ = w10; have n0_ : Aside0 (Kd.V (Kd.int .i64) 3 w10 w.heap.size (fun k_ => some k_ ≠ (.slice Ao12 y232.length co12 : Value).ownBlock ∧ k_ ≠ gb226) v228 t227) := ⟨by rw [← hq_]; exact (by (with_reducible repeat (first | apply Kd.V_alloc | apply Kd.V_drewN | apply Kd.V_drew)); exact Kd.V_mono HO229.out (fun _ hk => ⟨hk.2, hk.1⟩))⟩; have n1_ := gr HO234 hq_; have n2_ := gd BK226 hq_; have n3_ := gs HB hq_; clear HO229 HO234 BK226 HB hq_; have HO229 := n0_; have HO234 := n1_; have BK226 := n2_; have HB := n3_; clear n0_ n1_ n2_ n3_)); obtain ⟨Ao13, co13, eo13⟩ := Kd.V_slice HO229.out; subst eo13) | ((with_reducible refine gate_callee (f := 95) rfl ?_); refine gl (some 24) Tryd.func95 #[.slice Ao13 t227.length co13, .int .i64 a1] ?_; (with_reducible refine (Sp_estimate.calls k _ _ t227 a1 t236 t237 _ ?side1 ?side2 ?side3 A7.out).mono ?_); (case side1 => repeat (first | exact (Kd.V_reads' HO229.out).2.2 | (with_reducible refine Kd.C_alloc ?_ _) | (with_reducible refine Kd.C_drewN ?_ _) | (with_reducible refine Kd.C_drew ?_))); (case side2 => exact (Kd.V_reads' HO229.out).2.1); (case side3 => exact EstG.below HG.out bz); rintro e w14 ⟨rfl, hb⟩; refine ⟨_, rfl, ?_⟩; replace HO229 := m0 (Kd.V_below (by (with_reducible repeat (first | apply Kd.V_alloc | apply Kd.V_drewN | apply Kd.V_drew)); exact HO229.out) hb); replace HO234 := rb HO234 hb; replace BK226 := bb BK226 hb; replace HB := sb HB hb; (try clear hb); obtain ⟨_, _, _, _⟩ := b2 BK226))
  refine bodyPost_ret (results_ct rfl _ _ gb226 26 #[.int .i64 t236, .int .i64 t237] (0, 0) _ rfl (bq BK226.out) Tryd.underlying26 rfl (by kernel_rfl)) rfl ?_
  exact ez
 ·rw [if_neg c6] at H
  have c6b0 := beq_eq_false_iff_ne.mpr c6
  have c6b1 := bne_iff_ne.mpr c6
  simp only [Option.some.injEq, Prod.mk.injEq] at H
  obtain ⟨rfl, rfl, rfl⟩ := H
  go_enter Tryd.func34, Tryd.ntmps34
  go_wp2_with (first | ((with_reducible refine gate_dst (N := 4) rfl ?_); refine be 4 26 #[.int .i64 0, .int .i64 0] ?_; intro gb226 hg w16 hbox hb; have BK226 := m0 hbox; have GW226 := m0 (bg (n := w.heap.size) hg); have GE226 := m0 (bg (n := w.heap.size) hg); replace HB := sb HB hb; clear hb hbox hg) | ((with_reducible refine gate_callee (f := 102) rfl ?_); refine gl (some 10) Tryd.func102 #[.slice A0 l0.length c0] ?_; (with_reducible refine (line_open.calls (fun k_ => k_ < w.heap.size) _ _ l0 t227 t230 _ ?side1 A3.out).mono ?_); (case side1 => exact Kd.V_mk HC0.out (Kd.F_below (Kd.C_F (Kd.heap_int .i64) HR0.out) bz)); rintro e w17 ⟨v228, rfl, ho0, hb⟩; refine ⟨_, rfl, ?_⟩; have HO229 := m0 (Kd.V_lower (Kd.V_mono (ok' := fun k_ => k_ ≠ gb226) ho0 (fun k_ hk_ => Or.elim hk_ (fun hs_ => fun e_ => Nat.not_le.2 hs_ (by rw [e_]; exact GW226.out)) (fun hn_ => (Kd.freshB (g := gb226) (o := .cells #[.int .i64 0, .int .i64 0] 26 (0, 0)) (bk BK226.out) k_ hn_)))) (below_size bz)); replace BK226 := bb BK226 hb; replace HB := sb HB hb; (try clear hb); (try clear ho0)) | ((with_reducible refine gate_callee (f := 92) rfl ?_); refine gl (some 15) Tryd.func92 #[.int .i64 a1] ?_; (with_reducible refine (line_kindErr.calls a1 t231 _ A4.out).mono ?_); rintro e w' ⟨rfl, ⟨nd, rfl⟩⟩; refine ⟨_, rfl, ?_⟩; (try (rw [drewN_self w17]; generalize hq_ : World.drewN w17 _ = w17; have n0_ : Aside0 (Kd.V (Kd.int .i64) 3 w17 w.heap.size (fun k_ => k_ ≠ gb226) v228 t227) := ⟨by rw [← hq_]; exact (by (with_reducible repeat (first | apply Kd.V_alloc | apply Kd.V_drewN | apply Kd.V_drew)); exact HO229.out)⟩; have n1_ := gd BK226 hq_; have n2_ := gs HB hq_; clear HO229 BK226 HB hq_; have HO229 := n0_; have BK226 := n1_; have HB := n2_; clear n0_ n1_ n2_))) | ((with_reducible refine gate_dst (N := 16) rfl ?_); refine Kd.R_lit (Kd.int .i64) _ 31 ?hg (N := 16) ?hd (xs := ([t230, t231] : List Int)) (inner := [.int .i64 t230, .int .i64 t231]) (ok := fun _ => True) (okp := fun _ => True) ?hr ?hp (fun _ hk => hk) trivial (Below.refl _ _) (Nat.le_refl _) (by simp) ?_; (case hd => rfl); (case hg => rfl); (case hr => first | (go_simp; done) | (go_simp; rfl)); (case hp => exact (Reps.one (show Kd.M (Kd.int .i64) _ _ _ t230 [.int .i64 t230] from rfl) (Reps.one (show Kd.M (Kd.int .i64) _ _ _ t231 [.int .i64 t231] from rfl) (Reps.none _ _)))); intro v233 w18 ho19 hb hg_ hnew_; clear hg_ hnew_; (first | rw [← Ny232.out] at ho19 | (simp only [Int.reduceToNat] at ho19; rw [← Ny232.out] at ho19)); replace HO229 := m0 (Kd.V_elder' (by (with_reducible repeat (first | apply Kd.V_alloc | apply Kd.V_drewN | apply Kd.V_drew)); exact HO229.out) (Kd.R_base ho19) hb); have HO234 := m0 (Kd.R_lower ho19 (below_size bz)); replace BK226 := bb BK226 hb; replace HB := sb HB hb; clear hb ho19; obtain ⟨Ao20, co20, eo20⟩ := Kd.R_slice HO234.out; subst eo20) | ((with_reducible refine gate_callee (f := 91) rfl ?_); refine gl (some 17) Tryd.func91 #[.slice Ao20 y232.length co20] ?_; (with_reducible refine (line_first.calls k _ _ y232 t235 _ ?side1 ?side2 A5.out).mono ?_); (case side1 => exact bc (Kd.R_reads' HO234.out).2.2); (case side2 => exact (Kd.R_reads' HO234.out).2.1); rintro e w' ⟨rfl, ⟨nd, rfl⟩⟩; refine ⟨_, rfl, ?_⟩; (try (rw [drewN_self w18]; generalize hq_ : World.drewN w18 _ = w18; have n0_ : Aside0 (Kd.V (Kd.int .i64) 3 w18 w.heap.size (fun k_ => some k_ ≠ (.slice Ao20 y232.length co20 : Value).ownBlock ∧ k_ ≠ gb226) v228 t227) := ⟨by rw [← hq_]; exact (by (with_reducible repeat (first | apply Kd.V_alloc | apply Kd.V_drewN | apply Kd.V_drew)); exact Kd.V_mono HO229.out (fun _ hk => ⟨hk.2, hk.1⟩))⟩; have n1_ := gr HO234 hq_; have n2_ := gd BK226 hq_; have n3_ := gs HB hq_; clear HO229 HO234 BK226 HB hq_; have HO229 := n0_; have HO234 := n1_; have BK226 := n2_; have HB := n3_; clear n0_ n1_ n2_ n3_)); obtain ⟨_, _, _, _⟩ := b2 BK226))
  refine bodyPost_ret (results_ct rfl _ _ gb226 26 #[.int .i64 0, .int .i64 0] (0, 0) _ rfl (bq BK226.out) Tryd.underlying26 rfl (by kernel_rfl)) rfl ?_
  exact ez
end
section
def Bs_Whole.f (a0 : Int) : Option (Int × Int) := some (a0, 1)
theorem Bs_Whole.calls (a0 : Int) (r1 : Int) (r2 : Int) (w : World) (h : Bs_Whole.f a0 = some (r1, r2)) :
  Calls Tryd.prog 38 #[.int .i64 a0] w fun e w' => e = .returned (.agg #[.int .i64 r1, .int .i64 r2]) ∧ Below w.heap.size w w' := by
 have hu26 := Tryd.underlying26
 have HB := m0 (Below.refl w.heap.size w)
 have H : (some (a0, 1)) = some (r1, r2) := h
 clear h
 simp only [Option.some.injEq, Prod.mk.injEq] at H
 obtain ⟨rfl, rfl⟩ := H
 go_enter Tryd.func38, Tryd.ntmps38
 go_wp2_with (first | ((with_reducible refine gate_dst (N := 2) rfl ?_); refine be 2 26 #[.int .i64 0, .int .i64 0] ?_; intro gb238 hg w2 hbox hb; have BK238 := m0 hbox; have GW238 := m0 (bg (n := w.heap.size) hg); have GE238 := m0 (bg (n := w.heap.size) hg); replace HB := sb HB hb; clear hb hbox hg; obtain ⟨_, _, _, _⟩ := b2 BK238))
 refine bodyPost_ret (results_cell_row rfl _ _ gb238 26 #[.int .i64 a0, .int .i64 1] (0, 0) _ rfl (bq BK238.out) Tryd.underlying26 rfl (by kernel_rfl)) rfl ?_
 exact ez
end
section
def Bs_Size.f (a0 : Int) : Option (Int) := some (mx a0 (wrap64 (-a0)))
theorem Bs_Size.calls (a0 : Int) (r : Int) (w : World) (h : Bs_Size.f a0 = some r) :
  Calls Tryd.prog 40 #[.int .i64 a0] w fun e w' => e = .returned (.int .i64 r) ∧ Below w.heap.size w w' := by
 have HB := m0 (Below.refl w.heap.size w)
 have H : (some (mx a0 (wrap64 (-a0)))) = some r := h
 clear h
 obtain ⟨ji2, hji2⟩ : ∃ j_ : Int, (mx a0 (wrap64 (-a0))) = j_ := ⟨_, rfl⟩
 replace H : (some ji2) = some r := by first | (rw [hji2] at H; exact H) | (simp only [hji2] at H ⊢; exact H)
 have hji2_ : (if a0 < (wrap64 (-a0)) then (wrap64 (-a0)) else a0) = ji2 := hji2
 obtain rfl := Option.some.inj H
 go_enter Tryd.func40, Tryd.ntmps40
 go_wp2
 go_ret
 exact ⟨by first | rfl | (simp [errW_none, errW_some] <;> rfl) | (simp only [← hji2]; first | rfl | (simp [errW_none, errW_some] <;> rfl)) | (simp [*, errW_none, errW_some] <;> rfl), by repeat (first | (with_reducible first | exact HB.out | apply below_alloc | apply pw_below_drewN | apply below_drew1) | exact HB.out)⟩
end
section
def Bs_Gcd.l0 : Nat → Int → Int → Option (Int)
 | 0, _, _ => none
 | k + 1, x0, x1 => if x1 = 0 then ((Bs_Size.f x0).bind fun t239 => (some t239)) else (Bs_Gcd.l0 k x1 (Int.tmod x0 x1))
def Bs_Gcd.f (k : Nat) (a0 : Int) (a1 : Int) : Option (Int) := Bs_Gcd.l0 k a0 a1
theorem Bs_Gcd.mono_l : ∀ k, (∀ y0 y1, LeO (Bs_Gcd.l0 k y0 y1) (Bs_Gcd.l0 (k + 1) y0 y1))
 | 0 => fun _ _ r h => by simp [Bs_Gcd.l0] at h
 | k + 1 => by
  have ih0 := Bs_Gcd.mono_l k
  ·intro y0 y1
   unfold Bs_Gcd.l0
   repeat' first
   | (with_reducible exact ih0 _ _)
   | (with_reducible exact LeO.refl _)
   | (with_reducible exact LeO.none _)
   | (with_reducible refine LeO.ite ?_ ?_)
   | (with_reducible refine LeO.bind ?_ (fun _ => ?_))
   | exact ih0 _ _
   | exact LeO.none _
   | refine LeO.ite ?_ ?_
   | refine LeO.bind ?_ (fun _ => ?_)
theorem Bs_Gcd.mono : ∀ a0 a1 k, LeO (Bs_Gcd.f k a0 a1) (Bs_Gcd.f (k + 1) a0 a1) := by
 intro a0 a1 k
 have ih0 := Bs_Gcd.mono_l k
 unfold Bs_Gcd.f
 repeat' first
   | (with_reducible exact ih0 _ _)
   | (with_reducible exact LeO.refl _)
   | (with_reducible exact LeO.none _)
   | (with_reducible refine LeO.ite ?_ ?_)
   | (with_reducible refine LeO.bind ?_ (fun _ => ?_))
   | exact ih0 _ _
   | exact LeO.none _
   | refine LeO.ite ?_ ?_
   | refine LeO.bind ?_ (fun _ => ?_)
theorem Bs_Gcd.calls (k : Nat) (a0 : Int) (a1 : Int) (r : Int) (w : World) (h : Bs_Gcd.f k a0 a1 = some r) :
  Calls Tryd.prog 104 #[.int .i64 a0, .int .i64 a1] w fun e w' => e = .returned (.int .i64 r) ∧ Below w.heap.size w w' := by
 have HB := m0 (Below.refl w.heap.size w)
 have H : (Bs_Gcd.l0 k a0 a1) = some r := h
 clear h
 have H' := m0 H
 clear H
 go_enter Tryd.func104, Tryd.ntmps104
 go_wp2
 repeat (go_quiet (fail); try go_wp2)
 go_loopg [0, 1] k (fun kq v0 v1 w' => ∃ (x0_1 : Int) (x1_1 : Int), v0 = .int .i64 x0_1 ∧ v1 = .int .i64 x1_1 ∧ Aside0 (Bs_Gcd.l0 kq x0_1 x1_1 = some r) ∧ Aside0 (kq ≤ k) ∧ Aside0 (Below w.heap.size w w'))
 case atStart => exact ⟨(a0), (a1), (by first | rfl | (simp; done) | (simp [*]; done)), (by first | rfl | (simp; done) | (simp [*]; done)), H', ⟨Nat.le_refl _⟩, ⟨bz⟩⟩
 case round =>
  clear H'
  try clear c1
  try clear p2
  obtain ⟨x0_1, x1_1, rfl, rfl, HA, HK1, HB⟩ := hrel
  cases gk with
  | zero => exact absurd HA.out (by simp [Bs_Gcd.l0])
  | succ k1 =>
   have H := HA.out
   clear HA
   simp only [Bs_Gcd.l0] at H
   by_cases c3 : x1_1 = 0
   ·rw [if_pos c3] at H
    have c3b0 := beq_iff_eq.mpr c3
    have c3b1 := bne_eq_false_iff_eq.mpr c3
    clear c3
    replace H := ob H
    obtain ⟨t239, A40, H⟩ := H
    (try dsimp only at H)
    have A4 := m0 A40
    clear A40
    obtain rfl := Option.some.inj H
    go_wp2_with (first | (go_at_call 40; (with_reducible refine (Bs_Size.calls x0_1 t239 _ A4.out).mono ?_); rintro e w5 ⟨rfl, hb⟩; replace HB := sb HB hb; (try clear hb)))
    repeat (go_quiet (first | (go_at_call 40; (with_reducible refine (Bs_Size.calls x0_1 t239 _ A4.out).mono ?_); rintro e w5 ⟨rfl, hb⟩; replace HB := sb HB hb; (try clear hb))); try go_wp2_with (first | (go_at_call 40; (with_reducible refine (Bs_Size.calls x0_1 t239 _ A4.out).mono ?_); rintro e w5 ⟨rfl, hb⟩; replace HB := sb HB hb; (try clear hb))))
    go_ret
    exact ez
   ·rw [if_neg c3] at H
    have c3b0 := beq_eq_false_iff_ne.mpr c3
    have c3b1 := bne_iff_ne.mpr c3
    have H' := m0 H
    clear H
    go_wp2
    repeat (go_quiet (fail); try go_wp2)
    go_roundg k1
    case measure => have := HK1.out; omega
    case rel => exact ⟨(x1_1), (Int.tmod x0_1 x1_1), (by first | rfl | (simp; done) | (simp [*]; done)), (by first | rfl | (simp; done) | (simp [*]; done)), H', ⟨by have := HK1.out; omega⟩, ⟨bz⟩⟩
end
end Go.Proofs.YtjnkphmcndaijaaDoor.A
