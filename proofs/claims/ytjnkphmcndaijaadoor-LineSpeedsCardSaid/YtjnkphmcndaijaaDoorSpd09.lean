/- Walks of the program's functions (printed, made shorter), each with what it computes. -/
import Derived.Shelf.RegionOpen
import Derived.Test.YtjnkphmcndaijaaDoorSpd04
import Derived.Test.YtjnkphmcndaijaaDoorSpd05
import Derived.Test.YtjnkphmcndaijaaDoorSpd07
import Derived.Test.YtjnkphmcndaijaaDoorSpd06
import Derived.Test.YtjnkphmcndaijaaDoorSpd08
import Derived.Test.YtjnkphmcndaijaaDoorSpd03
namespace Go.Proofs.YtjnkphmcndaijaaDoor.A
set_option maxHeartbeats 8000000
set_option maxRecDepth 100000
open Go.RowKit Go.Proofs.YtjnkphmcndaijaaDoorW.PrintWords Go.Proofs.YtjnkphmcndaijaaDoorW.PrintLast Go.Proofs.YtjnkphmcndaijaaDoorW.PrintMore
attribute [local go_sem] max2_int min2_int max_two min_two max_three min_three max_four min_four
set_option linter.unusedVariables false
set_option linter.unusedSimpArgs false
section
def L_BiasOf_rest.step (k : Nat) (ls lv : List Int) (kind : Int) (j : Nat) (s : Int × Int) : Option (Int × Int) :=
 (L_noisy.f k ls lv j).bind fun row => (Sp_estimate.f k row kind).bind fun q => some (wrap64 (s.1 + q.1), wrap64 (s.2 + 1))
def L_BiasOf_rest.f (k : Nat) (l0_0 l0_1 : List Int) (a0_2 a0_3 a1 : Int) : Option (Int × Int × Int) :=
 (L_cases.f k l0_1 l0_0.length).bind fun c => if 0 ≤ c.1 then if c.1 ≤ 1000000 then (iterN (L_BiasOf_rest.step k l0_0 l0_1 a1) c.1.toNat (0, 0)).bind fun s => (L_fraction.f k (wrap64 (wrap64 (s.1 * a0_3) - wrap64 (a0_2 * s.2))) (wrap64 (s.2 * a0_3))).bind fun q => some (q.1, q.2, 0) else none else none
theorem L_BiasOf_rest.mono : ∀ a0 a1 a2 a3 a4 k, LeO (L_BiasOf_rest.f k a0 a1 a2 a3 a4) (L_BiasOf_rest.f (k + 1) a0 a1 a2 a3 a4) := by
 intro a0 a1 a2 a3 a4 k
 unfold L_BiasOf_rest.f
 refine LeO.bind (L_cases.mono _ _ _) (fun c => ?_)
 refine LeO.ite (LeO.ite (LeO.bind (iterN_mono (fun j s => ?_) _ _) (fun s => LeO.bind (L_fraction.mono _ _ _) (fun _ => LeO.refl _))) (LeO.none _)) (LeO.none _)
 unfold L_BiasOf_rest.step
 exact LeO.bind (L_noisy.mono _ _ _ _) (fun row => LeO.bind (Sp_estimate.mono _ _ _) (fun m => LeO.refl _))
def L_BiasOf_rest.T8 : Bool × List (List Nat × List Nat) := (true, [([], []), ([], []), ([], []), ([1, 2], [1, 2]), ([3], [3]), ([0, 4], [0, 4]), ([], []), ([6], [6]), ([5, 3, 0, 1, 2, 3, 4, 5], [5]), ([7, 8, 0, 1, 2, 3, 4, 5, 6, 7, 8], [7])])
def L_BiasOf_rest.B8 : List Nat := [0, 0, 0, 6, 14, 31, 0, 64, 63, 511]
theorem L_BiasOf_rest.tab8 : rtab .any (opsOf Tryd.f20 8) = L_BiasOf_rest.T8 := by kernel_rfl
theorem L_BiasOf_rest.bits8 : waitsOk L_BiasOf_rest.T8.2 L_BiasOf_rest.B8 = true := by kernel_rfl
attribute [local go_sem] Oper.semAt_some
def L_BiasOf.f (k : Nat) (l0_0 : List Int) (l0_1 : List Int) (a0_2 : Int) (a0_3 : Int) (a1 : Int) : Option (Int × Int × Int) := if a1 = 0 then ((L_CheckCase.f k l0_0 l0_1 a0_2 a0_3).bind fun t186 => ((L_kindErr.f a1).bind fun t187 => ((L_unless.f true 14).bind fun t188 => ((L_first.f k (([t186, t187, t188] : List Int))).bind fun t192 => (if t192 = 0 then (L_BiasOf_rest.f k l0_0 l0_1 a0_2 a0_3 a1) else (some (0, 0, t192))))))) else ((L_CheckCase.f k l0_0 l0_1 a0_2 a0_3).bind fun t195 => ((L_kindErr.f a1).bind fun t196 => ((L_unless.f (a1 == 3) 14).bind fun t197 => ((L_first.f k (([t195, t196, t197] : List Int))).bind fun t201 => (if t201 = 0 then (L_BiasOf_rest.f k l0_0 l0_1 a0_2 a0_3 a1) else (some (0, 0, t201)))))))
theorem L_BiasOf.mono : ∀ a0 a1 a2 a3 a4 k, LeO (L_BiasOf.f k a0 a1 a2 a3 a4) (L_BiasOf.f (k + 1) a0 a1 a2 a3 a4) := by
 intro a0 a1 a2 a3 a4 k
 unfold L_BiasOf.f
 repeat' with_reducible first
  | exact L_BiasOf_rest.mono ..
  | exact L_CheckCase.mono ..
  | exact L_first.mono ..
  | exact LeO.refl ..
  | exact LeO.none ..
  | refine LeO.ite ?_ ?_
  | refine LeO.bind ?_ (fun _ => ?_)
def L_BiasOf.T2 : Bool × List (List Nat × List Nat) := (true, [([], []), ([0], [0]), ([], []), ([2, 1], [2]), ([], []), ([4, 3], [4]), ([1, 3, 5], [1, 3, 5]), ([6, 5], [6]), ([7, 7, 0, 1, 2, 3, 4, 5, 6, 7], [7])])
def L_BiasOf.B2 : List Nat := [0, 1, 0, 7, 0, 31, 63, 127, 255]
theorem L_BiasOf.tab2 : rtab .any (opsOf Tryd.f20 2) = L_BiasOf.T2 := by kernel_rfl
theorem L_BiasOf.bits2 : waitsOk L_BiasOf.T2.2 L_BiasOf.B2 = true := by kernel_rfl
theorem L_BiasOf.calls (k : Nat) (A0_0 : Option Addr) (c0_0 : Nat) (l0_0 : List Int) (A0_1 : Option Addr) (c0_1 : Nat) (l0_1 : List Int) (a0_2 : Int) (a0_3 : Int) (a1 : Int) (r1 : Int) (r2 : Int) (r3 : Int) (w : World) (hr0_0 : Kd.C (Kd.int .i64) w A0_0 l0_0.length l0_0) (hc0_0 : l0_0.length ≤ c0_0) (hr0_1 : Kd.C (Kd.int .i64) w A0_1 l0_1.length l0_1) (hc0_1 : l0_1.length ≤ c0_1) (hG : EstG w) (h : L_BiasOf.f k l0_0 l0_1 a0_2 a0_3 a1 = some (r1, r2, r3)) :
  Calls Tryd.prog 20 #[.agg #[.slice A0_0 l0_0.length c0_0, .slice A0_1 l0_1.length c0_1, .int .i64 a0_2, .int .i64 a0_3], .int .i64 a1] w fun e w' => e = .returned (.tuple #[.agg #[.int .i64 r1, .int .i64 r2], .int .i64 r3]) ∧ Below w.heap.size w w' := by
 have hu28 := Tryd.underlying28
 have hu26 := Tryd.underlying26
 have hu24 := Tryd.underlying24
 have hfd26_0 : ∀ (x0_ x1_ : Value) (W_ : World), (Instr.field 26 (.agg #[x0_, x1_]) 0).run Tryd.prog W_ = .ok (x0_) W_ := fun _ _ _ => by kernel_rfl
 have HG := m0 hG
 clear hG
 have HR0_0 := m0 hr0_0
 have HC0_0 := m0 hc0_0
 clear hr0_0 hc0_0
 have HR0_1 := m0 hr0_1
 have HC0_1 := m0 hc0_1
 clear hr0_1 hc0_1
 have HB := m0 (Below.refl w.heap.size w)
 have H : (if a1 = 0 then ((L_CheckCase.f k l0_0 l0_1 a0_2 a0_3).bind fun t186 => ((L_kindErr.f a1).bind fun t187 => ((L_unless.f true 14).bind fun t188 => ((L_first.f k (([t186, t187, t188] : List Int))).bind fun t192 => (if t192 = 0 then (L_BiasOf_rest.f k l0_0 l0_1 a0_2 a0_3 a1) else (some (0, 0, t192))))))) else ((L_CheckCase.f k l0_0 l0_1 a0_2 a0_3).bind fun t195 => ((L_kindErr.f a1).bind fun t196 => ((L_unless.f (a1 == 3) 14).bind fun t197 => ((L_first.f k (([t195, t196, t197] : List Int))).bind fun t201 => (if t201 = 0 then (L_BiasOf_rest.f k l0_0 l0_1 a0_2 a0_3 a1) else (some (0, 0, t201)))))))) = some (r1, r2, r3) := h
 clear h
 by_cases c3 : a1 = 0
 ·rw [if_pos c3] at H
  have c3b0 := beq_iff_eq.mpr c3
  have c3b1 := bne_eq_false_iff_eq.mpr c3
  clear c3
  replace H := ob H
  obtain ⟨t186, A4, H⟩ := H
  (try dsimp only at H)
  replace A4 := m0 A4
  replace H := ob H
  obtain ⟨t187, A5, H⟩ := H
  (try dsimp only at H)
  replace A5 := m0 A5
  replace H := ob H
  obtain ⟨t188, A6, H⟩ := H
  (try dsimp only at H)
  replace A6 := m0 A6
  obtain ⟨y189, hy189⟩ : ∃ y_ : List Int, y_ = (([t186, t187, t188] : List Int)) := ⟨_, rfl⟩
  replace H : ((L_first.f k y189).bind fun t192 => (if t192 = 0 then (L_BiasOf_rest.f k l0_0 l0_1 a0_2 a0_3 a1) else (some (0, 0, t192)))) = some (r1, r2, r3) := by first | (rw [hy189]; with_reducible exact H) | (have H2_ := (Option.bind_some _ _).symm.trans H; rw [hy189]; with_reducible exact H2_) | (have H2_ := (Option.bind_some _ _).symm.trans H; with_reducible exact H2_) | with_reducible exact H | (rw [hy189]; exact H) | exact H
  have Ny189 := m0 hy189
  clear hy189
  replace H := ob H
  obtain ⟨t192, A7, H⟩ := H
  (try dsimp only at H)
  replace A7 := m0 A7
  by_cases c8 : t192 = 0
  ·rw [if_pos c8] at H
   have c8b0 := beq_iff_eq.mpr c8
   have c8b1 := bne_eq_false_iff_eq.mpr c8
   clear c8
   refine (callsIn_wide (n := 9)).1 (callsIn_of_wp_marks Tryd.func20 rfl trivial (wpIn_mono (Q := QM 9 Tryd.prog Tryd.f20 _) (wpIn_wide.2 ?_) (fun _ _ _ h => QM.le h)) rfl)
   simp only [Tryd.ntmps20, List.size_toArray, List.length_cons, List.length_nil, Nat.reduceAdd, Nat.reduceSub, Array.replicate_succ, Array.replicate_zero, List.push_toArray, List.append_toArray, List.nil_append, List.cons_append]
   try go_wp2_with (first | ((with_reducible refine gate_dst (N := 2) rfl ?_); refine be 2 28 #[.slice A0_0 l0_0.length c0_0, .slice A0_1 l0_1.length c0_1, .int .i64 a0_2, .int .i64 a0_3] ?_; intro gb183 hg w9 hbox hb; have BK183 := m0 hbox; have GE183 := gw w hg; replace HB := sb HB hb; clear hb hbox hg) | ((with_reducible refine gate_dst (N := 3) rfl ?_); refine be 3 3 #[.int .i64 a1] ?_; intro gb184 hg w10 hbox hb; have BK184 := m0 hbox; have GE184 := gw w hg; replace HB := sb HB hb; have NB183_184 := nl BK183 hg; have NB184_183 := ng (nl BK183 hg); replace BK183 := bb BK183 hb; clear hb hbox hg) | ((with_reducible refine gate_dst (N := 4) rfl ?_); refine be 4 26 #[.int .i64 0, .int .i64 0] ?_; intro gb185 hg w11 hbox hb; have BK185 := m0 hbox; have GE185 := gw w hg; replace HB := sb HB hb; have NB183_185 := nl BK183 hg; have NB185_183 := ng (nl BK183 hg); replace BK183 := bb BK183 hb; have NB184_185 := nl BK184 hg; have NB185_184 := ng (nl BK184 hg); replace BK184 := bb BK184 hb; clear hb hbox hg; have hnb12 := NB184_183.out; have hnc12 := NB183_184.out; have hnb13 := NB184_185.out; have hnc13 := NB185_184.out; obtain ⟨_, _⟩ := b1 BK184))
   replace BK183 := bd BK183; replace BK184 := bd BK184; replace BK185 := bd BK185; replace HB := sd HB
   refine start_ (n := 9) (S := fun w' => w'.cell? ⟨gb183, 0, none⟩ = some (.slice A0_0 l0_0.length c0_0) ∧ w'.cell? ⟨gb183, 1, none⟩ = some (.slice A0_1 l0_1.length c0_1) ∧ w'.cell? ⟨gb183, 2, none⟩ = some (.int .i64 a0_2) ∧ w'.cell? ⟨gb183, 3, none⟩ = some (.int .i64 a0_3) ∧ w'.cell? ⟨gb184, 0, none⟩ = some (.int .i64 a1)) (ds := []) #[false, false, false, false, false, false, false, false, false] (by kernel_rfl) rfl rfl cz (fun hH => ?_); refine with_tabW L_BiasOf.tab2 L_BiasOf.bits2 (fun HT_ HW_ => ?_)
   generalize w11.drew = w15 at BK183 BK184 BK185 HB hH ⊢
   refine pZ 4 (some 22) #[false, false, false, false, true, false, false, false, false] HT_ ?_
   refine takeZ 0 (some 18) #[true, false, false, false, true, false, false, false, false] (take_ofW HT_.out HW_.out (by kernel_rfl)) hH ?_
   refine takeZ 2 (some 20) #[true, false, true, false, true, false, false, false, false] (take_ofW HT_.out HW_.out (by kernel_rfl)) hH ?_
   refine oneZ 1 (some 19) #[true, true, true, false, true, false, false, false, false] (one_of HT_.out (by kernel_rfl)) fun K hK => ?_
   refine gz Tryd.func53 #[.agg #[.slice A0_0 l0_0.length c0_0, .slice A0_1 l0_1.length c0_1, .int .i64 a0_2, .int .i64 a0_3]] ?_
   with_reducible refine (L_CheckCase.calls k _ _ l0_0 _ _ l0_1 a0_2 a0_3 t186 _ ?side1 ?side2 ?side3 ?side4 A4.out).mono ?_
   (case side1 => exact cb HR0_0 HB)
   (case side2 => exact HC0_0.out)
   (case side3 => exact cb HR0_1 HB)
   (case side4 => exact HC0_1.out)
   rintro e w16 ⟨rfl, hb⟩
   refine ⟨_, rfl, ?_⟩
   replace BK183 := bb BK183 hb; replace BK184 := bb BK184 hb; replace BK185 := bb BK185 hb; replace HB := sb HB hb
   (try clear hb)
   refine hK.out _ _ cz (fun hH => ?_)
   clear hK K
   refine norm_ (a' := ?_) ?_ ?_
   rotate_left
   ·show Act.put _ (some 19) _ = _
    exact pz
   refine oneZ 3 (some 21) #[true, true, true, true, true, false, false, false, false] (one_of HT_.out (by kernel_rfl)) fun K hK => ?_
   refine gz Tryd.func92 #[.int .i64 a1] ?_
   with_reducible refine (L_kindErr.calls a1 t187 _ A5.out).mono ?_
   rintro e w' ⟨rfl, ⟨nd, rfl⟩⟩
   refine ⟨_, rfl, ?_⟩
   refine hK.out _ _ cz (fun hH => ?_)
   clear hK K
   refine norm_ (a' := ?_) ?_ ?_
   rotate_left
   ·show Act.put _ (some 21) _ = _
    exact pz
   refine oneZ 5 (some 23) #[true, true, true, true, true, true, false, false, false] (one_of HT_.out (by kernel_rfl)) fun K hK => ?_
   refine gz Tryd.func93 #[.bool true, .int .i64 14] ?_
   with_reducible refine (L_unless.calls true 14 t188 _ A6.out).mono ?_
   rintro e w' ⟨rfl, ⟨nd, rfl⟩⟩
   refine ⟨_, rfl, ?_⟩
   refine hK.out _ _ cz (fun hH => ?_)
   clear hK K
   refine norm_ (a' := ?_) ?_ ?_
   rotate_left
   ·show Act.put _ (some 23) _ = _
    exact pz
   refine oneZ 6 (some 24) #[true, true, true, true, true, true, true, false, false] (one_of HT_.out (by kernel_rfl)) fun K hK => ?_
   refine Kd.R_lit_step (Kd.int .i64) _ 31 ?hg (N := 24) ?hd (xs := ([t186, t187, t188] : List Int)) (inner := [.int .i64 t186, .int .i64 t187, .int .i64 t188]) (ok := fun _ => True) (okp := fun _ => True) ?hr ?hp (fun _ hk => hk) trivial (Below.refl _ _) (Nat.le_refl _) (by simp) ?_; (case hd => rfl); (case hg => rfl); (case hr => first | (go_simp; done) | (go_simp; rfl)); (case hp => exact (Reps.one (show Kd.M (Kd.int .i64) _ _ _ t186 [.int .i64 t186] from rfl) (Reps.one (show Kd.M (Kd.int .i64) _ _ _ t187 [.int .i64 t187] from rfl) (Reps.one (show Kd.M (Kd.int .i64) _ _ _ t188 [.int .i64 t188] from rfl) (Reps.none _ _)))))
   intro v190 w17 ho18 hb hg_ hnew_
   clear hg_ hnew_
   (first | rw [← Ny189.out] at ho18 | (simp only [Int.reduceToNat] at ho18; rw [← Ny189.out] at ho18))
   have HO191 := m0 (Kd.R_lower ho18 (below_size bz)); replace BK183 := bb BK183 hb; replace BK184 := bb BK184 hb; replace BK185 := bb BK185 hb; replace HB := sb HB hb
   clear hb ho18
   obtain ⟨Ao19, co19, eo19⟩ := Kd.R_slice HO191.out
   subst eo19
   refine hK.out _ _ cz (fun hH => ?_)
   clear hK K
   refine norm_ (a' := ?_) ?_ ?_
   rotate_left
   ·show Act.put _ (some 24) _ = _
    exact pz
   refine oneZ 7 (some 25) #[true, true, true, true, true, true, true, true, false] (one_of HT_.out (by kernel_rfl)) fun K hK => ?_
   refine gz Tryd.func91 #[.slice Ao19 y189.length co19] ?_
   with_reducible refine (L_first.calls k _ _ y189 t192 _ ?side1 ?side2 A7.out).mono ?_
   (case side1 => exact bc (Kd.R_reads' HO191.out).2.2)
   (case side2 => exact (Kd.R_reads' HO191.out).2.1)
   rintro e w' ⟨rfl, ⟨nd, rfl⟩⟩
   refine ⟨_, rfl, ?_⟩
   refine hK.out _ _ cz (fun hH => ?_)
   clear hK K
   refine norm_ (a' := ?_) ?_ ?_
   rotate_left
   ·show Act.put _ (some 25) _ = _
    exact pz
   refine pZ 8 (some 7) #[true, true, true, true, true, true, true, true, true] HT_ ?_
   refine done_ (done_of HT_.out (by kernel_rfl)) ?_
   try go_wp2_with (first | ((with_reducible refine gate_dst (N := 8) rfl ?_); refine be 8 3 #[.int .i64 0] ?_; intro gb193 hg w20 hbox hb; replace HO191 := rb HO191 hb; have BK193 := m0 hbox; have GE193 := gw w hg; replace HB := sb HB hb; have NB183_193 := nl BK183 hg; have NB193_183 := ng (nl BK183 hg); replace BK183 := bb BK183 hb; have NB184_193 := nl BK184 hg; have NB193_184 := ng (nl BK184 hg); replace BK184 := bb BK184 hb; have NB185_193 := nl BK185 hg; have NB193_185 := ng (nl BK185 hg); replace BK185 := bb BK185 hb; clear hb hbox hg) | ((with_reducible refine gate_dst (N := 9) rfl ?_); refine be 9 3 #[.int .i64 0] ?_; intro gb194 hg w21 hbox hb; replace HO191 := rb HO191 hb; have BK194 := m0 hbox; have GE194 := gw w hg; replace HB := sb HB hb; have NB183_194 := nl BK183 hg; have NB194_183 := ng (nl BK183 hg); replace BK183 := bb BK183 hb; have NB184_194 := nl BK184 hg; have NB194_184 := ng (nl BK184 hg); replace BK184 := bb BK184 hb; have NB185_194 := nl BK185 hg; have NB194_185 := ng (nl BK185 hg); replace BK185 := bb BK185 hb; have NB193_194 := nl BK193 hg; have NB194_193 := ng (nl BK193 hg); replace BK193 := bb BK193 hb; clear hb hbox hg; have hnb22 := NB193_183.out; have hnc22 := NB183_193.out; have hnb23 := NB193_184.out; have hnc23 := NB184_193.out; have hnb24 := NB193_185.out; have hnc24 := NB185_193.out; have hnb25 := NB193_194.out; have hnc25 := NB194_193.out; obtain ⟨_, _⟩ := b1 BK193; have hnb27 := NB194_183.out; have hnc27 := NB183_194.out; have hnb28 := NB194_184.out; have hnc28 := NB184_194.out; have hnb29 := NB194_185.out; have hnc29 := NB185_194.out; obtain ⟨_, _⟩ := b1 BK194; have hnb31 := NB183_185.out; have hnc31 := NB185_183.out; obtain ⟨_, _, _, _, _, _, _, _⟩ := b4 BK183))
   go_wp2_with (first | (go_at_call 94; refine (L_each.calls_own _ _ _ _ _ _ _).mono ?_; rintro e w' ⟨rfl, rfl⟩))
   unfold L_BiasOf_rest.f at H
   obtain ⟨⟨all, few⟩, hall, H⟩ := ob H
   by_cases h0 : 0 ≤ all
   case neg => rw [if_neg h0] at H; exact absurd H (by simp)
   rw [if_pos h0] at H
   by_cases hbig : all ≤ 1000000
   case neg => rw [if_neg hbig] at H; exact absurd H (by simp)
   rw [if_pos hbig] at H
   obtain ⟨⟨tot, cnt⟩, hit, H⟩ := ob H
   obtain ⟨⟨q1, q2⟩, hfr, H⟩ := ob H
   simp only [Option.some.injEq, Prod.mk.injEq] at H
   obtain ⟨rfl, rfl, rfl⟩ := H
   replace hit : iterN (L_BiasOf_rest.step k l0_0 l0_1 a1) all.toNat (0, 0) = some (tot, cnt) := hit
   replace hfr : L_fraction.f k (wrap64 (wrap64 (tot * a0_3) - wrap64 (a0_2 * cnt))) (wrap64 (cnt * a0_3)) = some (q1, q2) := hfr
   replace hall : L_cases.f k l0_1 l0_0.length = some (all, few) := hall
   have n89 := NB193_194.out
   have n28 := NB183_193.out
   have n29 := NB183_194.out
   have n38 := NB184_193.out
   have n39 := NB184_194.out
   have n48 := NB185_193.out
   have n49 := NB185_194.out
   have e8 := GE193.out
   have e9 := GE194.out
   have e4 := GE185.out
   obtain ⟨Wb, hWb⟩ := world_of BK183.out
   subst hWb
   obtain ⟨W0, hW0⟩ : ∃ W0, (((Wb.setCell ⟨gb193, 0, none⟩ (.int .i64 0)).setCell ⟨gb194, 0, none⟩ (.int .i64 0)).alloc (.cells #[.slice A0_0 l0_0.length c0_0] 22)).alloc (.cells #[.slice A0_1 l0_1.length c0_1] 24) = W0 := ⟨_, rfl⟩
   have hz : W0.heap.size = Wb.heap.size + 2 := by rw [← hW0]; simp [World.setCell]
   have hb0 : Below w.heap.size w W0 := by rw [← hW0]; exact bz
   have k2 : W0.heap[gb183]? = some (.cells #[.slice A0_0 l0_0.length c0_0, .slice A0_1 l0_1.length c0_1, .int .i64 a0_2, .int .i64 a0_3] 28 (0, 0)) := by rw [← hW0]; exact (bq BK183.out)
   have k3 : W0.heap[gb184]? = some (.cells #[.int .i64 a1] 3 (0, 0)) := by rw [← hW0]; exact (bq BK184.out)
   have k4 : W0.heap[gb185]? = some (.cells #[.int .i64 0, .int .i64 0] 26 (0, 0)) := by rw [← hW0]; exact (bq BK185.out)
   have k8 : W0.heap[gb193]? = some (.cells #[.int .i64 0] 3 (0, 0)) := by rw [← hW0]; exact (by (with_reducible repeat (first | refine blk_drewN ?_ _ | refine blk_drew ?_ | refine blk_alloc ?_ _)); refine blk_far ?_ NB193_194.out _; (with_reducible repeat (first | refine blk_drewN ?_ _ | refine blk_drew ?_ | refine blk_alloc ?_ _)); refine blk_put (cs := #[.int .i64 0]) ?_ 0 _ rfl; (with_reducible repeat (first | refine blk_drewN ?_ _ | refine blk_drew ?_ | refine blk_alloc ?_ _)); exact BK193.out)
   have k9 : W0.heap[gb194]? = some (.cells #[.int .i64 0] 3 (0, 0)) := by rw [← hW0]; exact (by (with_reducible repeat (first | refine blk_drewN ?_ _ | refine blk_drew ?_ | refine blk_alloc ?_ _)); refine blk_put (cs := #[.int .i64 0]) ?_ 0 _ rfl; (with_reducible repeat (first | refine blk_drewN ?_ _ | refine blk_drew ?_ | refine blk_alloc ?_ _)); refine blk_far ?_ NB194_193.out _; (with_reducible repeat (first | refine blk_drewN ?_ _ | refine blk_drew ?_ | refine blk_alloc ?_ _)); exact BK194.out)
   have l8 := blk_lt BK193.out
   have l9 := blk_lt BK194.out
   have ks : W0.heap[Wb.heap.size]? = some (.cells #[.slice A0_0 l0_0.length c0_0] 22 (0, 0)) := by
    rw [← hW0]; apply blk_alloc
    have := blk_new ((Wb.setCell ⟨gb193, 0, none⟩ (.int .i64 0)).setCell ⟨gb194, 0, none⟩ (.int .i64 0)) (.cells #[.slice A0_0 l0_0.length c0_0] 22 (0, 0)); simpa [World.setCell] using this
   have kx : W0.heap[Wb.heap.size + 1]? = some (.cells #[.slice A0_1 l0_1.length c0_1] 24 (0, 0)) := by
    rw [← hW0]
    have := blk_new (((Wb.setCell ⟨gb193, 0, none⟩ (.int .i64 0)).setCell ⟨gb194, 0, none⟩ (.int .i64 0)).alloc (.cells #[.slice A0_0 l0_0.length c0_0] 22)) (.cells #[.slice A0_1 l0_1.length c0_1] 24 (0, 0)); simpa [World.setCell] using this
   rw [hW0]
   clear hW0
   have hrow : ∀ j : Nat, (j : Int) < all → L_noisy.f k l0_0 l0_1 j = some ((L_noisy.f k l0_0 l0_1 j).getD []) := fun j hj => by
    obtain ⟨q, hq⟩ := iterN_pre hit (show j ≤ all.toNat by omega)
    obtain ⟨q', hq', _⟩ := iterN_at hit (show j < all.toNat by omega) hq
    obtain ⟨row, hr, _⟩ := Option.bind_eq_some_iff.mp hq'
    rw [hr]; rfl
   have hY := L_each.yields 8 k (by decide) A0_0 A0_1 c0_0 c0_1 l0_0 l0_1 all few (fun j => (L_noisy.f k l0_0 l0_1 j).getD []) w (Wb.heap.size + 1) Wb.heap.size W0 hb0 ((blk_cell kx 0).trans rfl) ((blk_cell ks 0).trans rfl) HR0_0.out HC0_0.out HR0_1.out HC0_1.out hall h0 hbig hrow
   have HIT := m0 hit
   have HFR := m0 hfr
   have HY := m0 hY
   refine wpIn_wide.1 (wpIn_rangeN2 (n := 9) rfl (by decide) (gf := 131) (lb := #[.pointer (some ⟨Wb.heap.size + 1, 0, none⟩), .pointer (some ⟨Wb.heap.size, 0, none⟩)]) rfl trivial (enters_of Tryd.func131 (by kernel_rfl) rfl) HY.out
    (L_each.Rd_putObj) (fun h k => h.trans k) (fun W l o o' hl h hc hw => L_each.Kp_putObj (w := W0) (v1 := undef) (v2 := undef) (Nat.le_trans hb0.size (Nat.le_refl _)) W l o o' hl h hc hw (by omega) (by omega)) (Below.refl _ _) (fun _ _ => rfl)
    (fun j W => (∃ s : Int × Int, iterN (L_BiasOf_rest.step k l0_0 l0_1 a1) j (0, 0) = some s ∧ W.heap[gb193]? = some (.cells #[.int .i64 s.1] 3 (0, 0)) ∧ W.heap[gb194]? = some (.cells #[.int .i64 s.2] 3 (0, 0)) ∧ W.heap[gb183]? = some (.cells #[.slice A0_0 l0_0.length c0_0, .slice A0_1 l0_1.length c0_1, .int .i64 a0_2, .int .i64 a0_3] 28 (0, 0)) ∧ W.heap[gb184]? = some (.cells #[.int .i64 a1] 3 (0, 0)) ∧ W.heap[gb185]? = some (.cells #[.int .i64 0, .int .i64 0] 26 (0, 0)) ∧ W0.heap.size ≤ W.heap.size) ∧ Below w.heap.size w W)
    (fun _ _ _ => False)
    (OwnFrom.and (fun j A B row hs hg hr => by
     obtain ⟨s, h1, h2, h3, h4, h5, h6, h7⟩ := hs
     exact ⟨s, h1, blk_own h2 hg hr, blk_own h3 hg hr, blk_own h4 hg hr, blk_own h5 hg hr, blk_own h6 hg hr, Nat.le_trans h7 hg.size⟩) (ownFrom_below (Nat.le_refl _) hb0.size))
    (fun _ _ _ _ _ hs _ _ => hs)
    ⟨⟨(0, 0), rfl, k8, k9, k2, k3, k4, Nat.le_refl _⟩, hb0⟩ ?round ?done ?stop)
   case stop =>
    rintro D c j W _ _ h _
    exact h.elim
   case round =>
    intro l j x W K hj hK
    have HKK := m0 hK
    clear hK
    gi_wp2
    refine HKK.out _ ?_
    clear HKK
    rintro W ⟨⟨⟨s1, s2⟩, hs, h8, h9, h2, h3, h4, h6⟩, hB⟩ ⟨A, c, hx, hc, hC, hm⟩
    obtain ⟨q', hq', hq1⟩ := iterN_at HIT.out hj hs
    obtain ⟨row, hr, hq'⟩ := Option.bind_eq_some_iff.mp hq'
    obtain ⟨⟨m1, m2⟩, hmx, hq'⟩ := Option.bind_eq_some_iff.mp hq'
    have er : (L_noisy.f k l0_0 l0_1 (j : Int)).getD [] = row := by rw [hr]; rfl
    simp only [er] at hx hc hC
    subst hx
    obtain rfl := Option.some.inj hq'
    have hEst := EstG.below HG.out hB
    have hcall : ∀ W5 : World, W5.heap = W.heap → W5.os = W.os → W5.tape = W.tape → W5.output = W.output → Calls Tryd.prog 95 #[.slice A row.length c, .int .i64 a1] W5 fun e w5 => e = .returned (.agg #[.int .i64 m1, .int .i64 m2]) ∧ w5.heap[gb193]? = some (.cells #[.int .i64 s1] 3 (0, 0)) ∧ w5.heap[gb194]? = some (.cells #[.int .i64 s2] 3 (0, 0)) ∧ w5.heap[gb184]? = some (.cells #[.int .i64 a1] 3 (0, 0)) ∧ Aside0 (Below W.heap.size W w5) := fun W5 hh ho ht hp => by
     refine (Sp_estimate.calls k A c row a1 m1 m2 W5 (C_blocks hC (fun ad e => by rw [hh])) hc (EstG.below hEst ⟨ho, ht, hp, by rw [hh]; exact Nat.le_refl _, fun i _ => by rw [hh]⟩) hmx).mono ?_
     rintro e w5 ⟨rfl, hb⟩
     have hb' := below_heap hb hh ho ht hp
     exact ⟨rfl, blk_below h8 hb', blk_below h9 hb', blk_below h3 hb', ⟨hb'⟩⟩
    have HCALL := m0 hcall
    have hpan : ∀ c a w', ¬ leftN (L_each.Kp w.heap.size (Wb.heap.size + 1) Wb.heap.size) (fun j W => (∃ s : Int × Int, iterN (L_BiasOf_rest.step k l0_0 l0_1 a1) j (0, 0) = some s ∧ W.heap[gb193]? = some (.cells #[.int .i64 s.1] 3 (0, 0)) ∧ W.heap[gb194]? = some (.cells #[.int .i64 s.2] 3 (0, 0)) ∧ W.heap[gb183]? = some (.cells #[.slice A0_0 l0_0.length c0_0, .slice A0_1 l0_1.length c0_1, .int .i64 a0_2, .int .i64 a0_3] 28 (0, 0)) ∧ W.heap[gb184]? = some (.cells #[.int .i64 a1] 3 (0, 0)) ∧ W.heap[gb185]? = some (.cells #[.int .i64 0, .int .i64 0] 26 (0, 0)) ∧ W0.heap.size ≤ W.heap.size) ∧ Below w.heap.size w W) (fun _ _ _ => False) (j + 1) W (.panic c) a w' := fun _ _ _ h => h
    have hout : ¬ LetsOut (leftN (L_each.Kp w.heap.size (Wb.heap.size + 1) Wb.heap.size) (fun j W => (∃ s : Int × Int, iterN (L_BiasOf_rest.step k l0_0 l0_1 a1) j (0, 0) = some s ∧ W.heap[gb193]? = some (.cells #[.int .i64 s.1] 3 (0, 0)) ∧ W.heap[gb194]? = some (.cells #[.int .i64 s.2] 3 (0, 0)) ∧ W.heap[gb183]? = some (.cells #[.slice A0_0 l0_0.length c0_0, .slice A0_1 l0_1.length c0_1, .int .i64 a0_2, .int .i64 a0_3] 28 (0, 0)) ∧ W.heap[gb184]? = some (.cells #[.int .i64 a1] 3 (0, 0)) ∧ W.heap[gb185]? = some (.cells #[.int .i64 0, .int .i64 0] 26 (0, 0)) ∧ W0.heap.size ≤ W.heap.size) ∧ Below w.heap.size w W) (fun _ _ _ => False) (j + 1) W) := fun ⟨_, _, h⟩ => h
    generalize hLEFT : leftN _ _ _ _ _ = LEFT at hpan hout ⊢
    have hyes : ∀ (w7 : World) (a : Act), Aside0 (Below W.heap.size W w7) → LEFT Exit.normal a ((w7.setCell ⟨gb193, 0, none⟩ (.int .i64 (wrap64 (s1 + m1)))).setCell ⟨gb194, 0, none⟩ (.int .i64 (wrap64 (s2 + 1)))) := by
     intro w7 a hb'
     have hb := hb'.out
     rw [← hLEFT]
     have hsz := hb.size
     have g8 := blk_below h8 hb
     have g9 := blk_below h9 hb
     refine ⟨((others_below hb).trans (KeepsOthers.setCell _ _ _)).trans (KeepsOthers.setCell _ _ _), ((show L_each.Kp w.heap.size (Wb.heap.size + 1) Wb.heap.size W w7 from ⟨hb.mono (Nat.le_trans hb0.size h6), World.cell?_of_block (hb.block _ (show Wb.heap.size + 1 < _ by omega)), World.cell?_of_block (hb.block _ (show Wb.heap.size < _ by omega))⟩).setCell e8 (by omega) (by omega)).setCell e9 (by omega) (by omega), ⟨_, hq1, ?_, ?_, ?_, ?_, ?_, ?_⟩, ?_⟩
     ·exact blk_ne_set (blk_put g8 0 _ rfl) n89
     ·exact blk_put (blk_ne_set g9 (fun e => n89 e.symm)) 0 _ rfl
     ·exact blk_ne_set (blk_ne_set (blk_below h2 hb) n28) n29
     ·exact blk_ne_set (blk_ne_set (blk_below h3 hb) n38) n39
     ·exact blk_ne_set (blk_ne_set (blk_below h4 hb) n48) n49
     ·simpa [World.setCell] using Nat.le_trans h6 hsz
     ·exact ((hB.trans (hb.mono (Nat.le_trans hb0.size h6))).setCell (p := ⟨gb193, 0, none⟩) e8 _).setCell (p := ⟨gb194, 0, none⟩) e9 _
    have HYES := m0 hyes
    have N89 := m0 n89
    have N38 := m0 n38
    have HPAN := m0 hpan
    have HOUT := m0 hout
    have c8 : W.cell? ⟨gb193, 0, none⟩ = some (.int .i64 s1) := (blk_cell h8 0).trans rfl
    have c9 : W.cell? ⟨gb194, 0, none⟩ = some (.int .i64 s2) := (blk_cell h9 0).trans rfl
    have c3 : W.cell? ⟨gb184, 0, none⟩ = some (.int .i64 a1) := (blk_cell h3 0).trans rfl
    have hmo : Tryd.prog.follows .mixedOrders = true := by kernel_rfl
    clear hpan hout hyes hLEFT hcall hs hr hmx hq1 hC hm hB h8 h9 h2 h3 h4 h6 hc hj er hEst hrow hY k2 k3 k4 k8 k9 ks kx hb0 hz hall h0 hbig hit hfr n89 n28 n29 n38 n39 n48 n49 e8 e9 e4 l8 l9
    gi_wp2
    refine startR_ (S := fun w' => w'.cell? ⟨gb194, 0, none⟩ = some (.int .i64 s2) ∧ w'.cell? ⟨gb184, 0, none⟩ = some (.int .i64 a1)) (ds := [9]) #[false, false, false, false, false, false, false, false, false, false] hmo (by kernel_rfl) HOUT.out rfl rfl ⟨c9, c3⟩ (fun hH => ?_)
    refine with_tabW L_BiasOf_rest.tab8 L_BiasOf_rest.bits8 (fun HT_ HW_ => ?_)
    refine pure_ (i := 1) (N := some 38) (v := ?_) (a' := ?_) #[false, true, false, false, false, false, false, false, false, false] rfl rfl (any_of HT_.out (by kernel_rfl)) (fun _ _ _ h => (HPAN.out _ _ _ h).elim) (Or.inl ⟨by rfl, ?_⟩) ?_ ?_
    rotate_left
    ·intro w'
     go_simp
     with_reducible rfl
    rotate_left
    ·exact pz
    refine take_ (i := 2) (N := some 39) (v := ?_) (a' := ?_) #[false, true, true, false, false, false, false, false, false, false] rfl rfl (take_ofW HT_.out HW_.out (by kernel_rfl)) (fun _ _ _ h => (HPAN.out _ _ _ h).elim) (Or.inl ⟨by rfl, ?_⟩) hH ?_ ?_
    rotate_left
    ·rintro w' ⟨s0, s1⟩
     go_simp
     with_reducible rfl
    rotate_left
    ·exact pz
    refine take_ (i := 6) (N := some 43) (v := ?_) (a' := ?_) #[false, true, true, false, false, false, true, false, false, false] rfl rfl (take_ofW HT_.out HW_.out (by kernel_rfl)) (fun _ _ _ h => (HPAN.out _ _ _ h).elim) (Or.inl ⟨by rfl, ?_⟩) hH ?_ ?_
    rotate_left
    ·rintro w' ⟨s0, s1⟩
     go_simp
     with_reducible rfl
    rotate_left
    ·exact pz
    refine pure_ (i := 7) (N := some 44) (v := ?_) (a' := ?_) #[false, true, true, false, false, false, true, true, false, false] rfl rfl (any_of HT_.out (by kernel_rfl)) (fun _ _ _ h => (HPAN.out _ _ _ h).elim) (Or.inl ⟨by rfl, ?_⟩) ?_ ?_
    rotate_left
    ·intro w'
     go_simp
     with_reducible rfl
    rotate_left
    ·exact pz
    refine two_ (i := 0) (j := 3) (Ni := some 37) (Nj := some 40) #[true, true, true, false, false, false, true, true, false, false] #[false, true, true, true, false, false, true, true, false, false] rfl rfl rfl rfl (two_of HT_.out (by kernel_rfl)) (by decide) (by decide) (fun K hK => ?_) (fun K hK => ?_)
    ·refine value_ (v := .int .i64 s1) (w1 := W.drew) (by rfl) rfl (by go_simp) ?_
     refine hK.out _ _ hH (fun hH => ?_)
     clear hK K
     refine norm_ (a' := ?_) ?_ ?_
     rotate_left
     ·show Act.put _ (some 37) _ = _
      exact pz
     refine oneZ 3 (some 40) #[true, true, true, true, false, false, true, true, false, false] (one_of HT_.out (by kernel_rfl)) fun K hK => ?_
     refine goes_ Tryd.func95 (by kernel_rfl) rfl #[.slice A row.length c, .int .i64 a1] (by rfl) rfl rfl (by (try simp only [List.map_toArray, List.map_cons, List.map_nil]); first | done | rfl) ?_
     refine (HCALL.out _ (by rfl) (by rfl) (by rfl) (by rfl)).mono ?_
     rintro e w5 ⟨rfl, g8, g9, g3, HX⟩
     refine ⟨_, rfl, ?_⟩
     refine hK.out _ _ ⟨(blk_cell g9 0).trans rfl, (blk_cell g3 0).trans rfl⟩ (fun hH => ?_)
     clear hK K
     refine norm_ (a' := ?_) ?_ ?_
     rotate_left
     ·show Act.put _ (some 40) _ = _
      exact pz
     refine pure_ (i := 4) (N := some 41) (v := ?_) (a' := ?_) #[true, true, true, true, true, false, true, true, false, false] rfl rfl (any_of HT_.out (by kernel_rfl)) (fun _ _ _ h => (HPAN.out _ _ _ h).elim) (Or.inl ⟨by rfl, ?_⟩) ?_ ?_
     rotate_left
     ·intro w'
      go_simp
      with_reducible rfl
     rotate_left
     ·exact pz
     refine pure_ (i := 5) (N := some 42) (v := ?_) (a' := ?_) #[true, true, true, true, true, true, true, true, false, false] rfl rfl (any_of HT_.out (by kernel_rfl)) (fun _ _ _ h => (HPAN.out _ _ _ h).elim) (Or.inl ⟨by rfl, ?_⟩) ?_ ?_
     rotate_left
     ·intro w'
      go_simp
      with_reducible rfl
     rotate_left
     ·exact pz
     refine oneZ 8 (none) #[true, true, true, true, true, true, true, true, true, false] (one_of HT_.out (by kernel_rfl)) fun K hK => ?_
     have d8 : w5.cell? ⟨gb193, 0, none⟩ = some (.int .i64 s1) := (blk_cell g8 0).trans rfl
     have f8 : w5.frozen? ⟨gb193, 0, none⟩ = false := blk_frozen g8 0
     refine skip_ (w1 := ?_) (by rfl) rfl ?_ ?_
     rotate_left
     ·go_simp
      rfl
     have q9 := blk_ne_set (b := gb193) (i := 0) (u := .int .i64 (wrap64 (s1 + m1))) g9 (fun e => N89.out e.symm)
     have q3 := blk_ne_set (b := gb193) (i := 0) (u := .int .i64 (wrap64 (s1 + m1))) g3 N38.out
     refine hK.out _ _ ⟨(blk_cell q9 0).trans rfl, (blk_cell q3 0).trans rfl⟩ (fun hH => ?_)
     clear hK K d8 f8
     refine last_ (i := 9) (N := none) #[true, true, true, true, true, true, true, true, true, true] rfl rfl (one_of HT_.out (by kernel_rfl)) (by decide) (fun K hK => ?_)
     have d9 := (blk_cell q9 0).trans rfl
     have f9 := blk_frozen q9 0
     refine skip_ (w1 := ?_) (by rfl) rfl ?_ ?_
     rotate_left
     ·go_simp
      rfl
     refine hK.out _ _ ?_
     clear hK K
     refine done_ (done_of HT_.out (by kernel_rfl)) ?_
     exact HYES.out _ _ HX
    ·refine goes_ Tryd.func95 (by kernel_rfl) rfl #[.slice A row.length c, .int .i64 a1] (by rfl) rfl rfl (by (try simp only [List.map_toArray, List.map_cons, List.map_nil]); first | done | rfl) ?_
     refine (HCALL.out _ (by rfl) (by rfl) (by rfl) (by rfl)).mono ?_
     rintro e w5 ⟨rfl, g8, g9, g3, HX⟩
     refine ⟨_, rfl, ?_⟩
     refine hK.out _ _ ⟨(blk_cell g9 0).trans rfl, (blk_cell g3 0).trans rfl⟩ (fun hH => ?_)
     clear hK K
     refine norm_ (a' := ?_) ?_ ?_
     rotate_left
     ·show Act.put _ (some 40) _ = _
      exact pz
     refine pure_ (i := 4) (N := some 41) (v := ?_) (a' := ?_) #[false, true, true, true, true, false, true, true, false, false] rfl rfl (any_of HT_.out (by kernel_rfl)) (fun _ _ _ h => (HPAN.out _ _ _ h).elim) (Or.inl ⟨by rfl, ?_⟩) ?_ ?_
     rotate_left
     ·intro w'
      go_simp
      with_reducible rfl
     rotate_left
     ·exact pz
     refine oneZ 0 (some 37) #[true, true, true, true, true, false, true, true, false, false] (one_of HT_.out (by kernel_rfl)) fun K hK => ?_
     have d8 : w5.cell? ⟨gb193, 0, none⟩ = some (.int .i64 s1) := (blk_cell g8 0).trans rfl
     refine value_ (v := .int .i64 s1) (w1 := w5) (by rfl) rfl (by go_simp) ?_
     refine hK.out _ _ hH (fun hH => ?_)
     clear hK K d8
     refine norm_ (a' := ?_) ?_ ?_
     rotate_left
     ·show Act.put _ (some 37) _ = _
      exact pz
     refine pure_ (i := 5) (N := some 42) (v := ?_) (a' := ?_) #[true, true, true, true, true, true, true, true, false, false] rfl rfl (any_of HT_.out (by kernel_rfl)) (fun _ _ _ h => (HPAN.out _ _ _ h).elim) (Or.inl ⟨by rfl, ?_⟩) ?_ ?_
     rotate_left
     ·intro w'
      go_simp
      with_reducible rfl
     rotate_left
     ·exact pz
     refine oneZ 8 (none) #[true, true, true, true, true, true, true, true, true, false] (one_of HT_.out (by kernel_rfl)) fun K hK => ?_
     have d8 : w5.cell? ⟨gb193, 0, none⟩ = some (.int .i64 s1) := (blk_cell g8 0).trans rfl
     have f8 : w5.frozen? ⟨gb193, 0, none⟩ = false := blk_frozen g8 0
     refine skip_ (w1 := ?_) (by rfl) rfl ?_ ?_
     rotate_left
     ·go_simp
      rfl
     have q9 := blk_ne_set (b := gb193) (i := 0) (u := .int .i64 (wrap64 (s1 + m1))) g9 (fun e => N89.out e.symm)
     have q3 := blk_ne_set (b := gb193) (i := 0) (u := .int .i64 (wrap64 (s1 + m1))) g3 N38.out
     refine hK.out _ _ ⟨(blk_cell q9 0).trans rfl, (blk_cell q3 0).trans rfl⟩ (fun hH => ?_)
     clear hK K d8 f8
     refine last_ (i := 9) (N := none) #[true, true, true, true, true, true, true, true, true, true] rfl rfl (one_of HT_.out (by kernel_rfl)) (by decide) (fun K hK => ?_)
     have d9 := (blk_cell q9 0).trans rfl
     have f9 := blk_frozen q9 0
     refine skip_ (w1 := ?_) (by rfl) rfl ?_ ?_
     rotate_left
     ·go_simp
      rfl
     refine hK.out _ _ ?_
     clear hK K
     refine done_ (done_of HT_.out (by kernel_rfl)) ?_
     exact HYES.out _ _ HX
   case done =>
    rintro D W hD ⟨⟨s, hs, h8, h9, h2, h3, h4, h6⟩, hB⟩ hK
    rw [HIT.out] at hs
    cases hs
    have H4 := m0 h4
    have HBB := m0 hB
    have H6 := m0 h6
    have HK := m0 hK
    have HD := m0 hD
    have E4 := m0 e4
    have HB0 := m0 hb0
    have L4 := m0 (blk_lt k4)
    have c8 : W.cell? ⟨gb193, 0, none⟩ = some (.int .i64 tot) := (blk_cell h8 0).trans rfl
    have c9 : W.cell? ⟨gb194, 0, none⟩ = some (.int .i64 cnt) := (blk_cell h9 0).trans rfl
    have c22 : W.cell? ⟨gb183, 2, none⟩ = some (.int .i64 a0_2) := (blk_cell h2 2).trans rfl
    have c23 : W.cell? ⟨gb183, 3, none⟩ = some (.int .i64 a0_3) := (blk_cell h2 3).trans rfl
    clear h8 h9 h2 h3 h4 hB h6 hz k2 k3 k4 k8 k9 ks kx hb0 hall h0 hbig hit hfr n89 n28 n29 n38 n39 n48 n49 e8 e9 e4 l8 l9 hrow hY hK hD
    go_wp2_with (first | (go_at_call 96; refine (L_fraction.calls k _ _ q1 q2 W HFR.out).mono ?_; rintro e w5 ⟨rfl, hb⟩; have g4 := blk_below H4.out hb; have z0 : w5.cell? ⟨gb185, 0, none⟩ = some (.int .i64 0) := (blk_cell g4 0).trans rfl; have z1 : w5.cell? ⟨gb185, 1, none⟩ = some (.int .i64 0) := (blk_cell g4 1).trans rfl; have f0 := blk_frozen g4 0; have f1 := blk_frozen g4 1; have HB5 := m0 hb; have G4 := m0 g4; clear hb g4))
    have hK5 : w5.heap[D]? = some (.deferred (some [])) := blk_below HK.out HB5.out
    have hD := HD.out
    have l4 := L4.out
    have e4 := E4.out
    have hK6 : ((w5.setCell ⟨gb185, 0, none⟩ (.int .i64 q1)).setCell ⟨gb185, 1, none⟩ (.int .i64 q2)).heap[D]? = some (.deferred (some [])) := blk_ne_set (blk_ne_set hK5 (by omega)) (by omega)
    refine ⟨by simp, .inl ⟨_, _, rfl, run_takeDeferred hK6, ?_⟩⟩
    have b1 : Below w.heap.size w ((w5.setCell ⟨gb185, 0, none⟩ (.int .i64 q1)).setCell ⟨gb185, 1, none⟩ (.int .i64 q2)) :=
     ((HBB.out.trans (HB5.out.mono HBB.out.size)).setCell (p := ⟨gb185, 0, none⟩) e4 _).setCell (p := ⟨gb185, 1, none⟩) e4 _
    exact ⟨_, results_ct rfl _ _ gb185 26 #[.int .i64 q1, .int .i64 q2] (0, 0) _ rfl ((World.putObj_heap_other (show gb185 ≠ D by omega)).trans (blk_put (cs := #[.int .i64 q1, .int .i64 0]) (blk_put (cs := #[.int .i64 0, .int .i64 0]) G4.out 0 _ rfl) 1 _ rfl)) Tryd.underlying26 rfl (by kernel_rfl), rfl, b1.trans (belowK_b (w := w) (Nat.le_refl _) _ D _ _ (Nat.le_trans HB0.out.size hD) hK6 rfl rfl)⟩
  ·rw [if_neg c8] at H
   have c8b0 := beq_eq_false_iff_ne.mpr c8
   have c8b1 := bne_iff_ne.mpr c8
   simp only [Option.some.injEq, Prod.mk.injEq] at H
   obtain ⟨rfl, rfl, rfl⟩ := H
   refine (callsIn_wide (n := 9)).1 (callsIn_of_wp_marks Tryd.func20 rfl trivial (wpIn_mono (Q := QM 9 Tryd.prog Tryd.f20 _) (wpIn_wide.2 ?_) (fun _ _ _ h => QM.le h)) rfl)
   simp only [Tryd.ntmps20, List.size_toArray, List.length_cons, List.length_nil, Nat.reduceAdd, Nat.reduceSub, Array.replicate_succ, Array.replicate_zero, List.push_toArray, List.append_toArray, List.nil_append, List.cons_append]
   try go_wp2_with (first | ((with_reducible refine gate_dst (N := 2) rfl ?_); refine be 2 28 #[.slice A0_0 l0_0.length c0_0, .slice A0_1 l0_1.length c0_1, .int .i64 a0_2, .int .i64 a0_3] ?_; intro gb183 hg w33 hbox hb; have BK183 := m0 hbox; have GE183 := gw w hg; replace HB := sb HB hb; clear hb hbox hg) | ((with_reducible refine gate_dst (N := 3) rfl ?_); refine be 3 3 #[.int .i64 a1] ?_; intro gb184 hg w34 hbox hb; have BK184 := m0 hbox; have GE184 := gw w hg; replace HB := sb HB hb; have NB183_184 := nl BK183 hg; have NB184_183 := ng (nl BK183 hg); replace BK183 := bb BK183 hb; clear hb hbox hg) | ((with_reducible refine gate_dst (N := 4) rfl ?_); refine be 4 26 #[.int .i64 0, .int .i64 0] ?_; intro gb185 hg w35 hbox hb; have BK185 := m0 hbox; have GE185 := gw w hg; replace HB := sb HB hb; have NB183_185 := nl BK183 hg; have NB185_183 := ng (nl BK183 hg); replace BK183 := bb BK183 hb; have NB184_185 := nl BK184 hg; have NB185_184 := ng (nl BK184 hg); replace BK184 := bb BK184 hb; clear hb hbox hg; have hnb36 := NB184_183.out; have hnc36 := NB183_184.out; have hnb37 := NB184_185.out; have hnc37 := NB185_184.out; obtain ⟨_, _⟩ := b1 BK184))
   replace BK183 := bd BK183; replace BK184 := bd BK184; replace BK185 := bd BK185; replace HB := sd HB
   refine start_ (n := 9) (S := fun w' => w'.cell? ⟨gb183, 0, none⟩ = some (.slice A0_0 l0_0.length c0_0) ∧ w'.cell? ⟨gb183, 1, none⟩ = some (.slice A0_1 l0_1.length c0_1) ∧ w'.cell? ⟨gb183, 2, none⟩ = some (.int .i64 a0_2) ∧ w'.cell? ⟨gb183, 3, none⟩ = some (.int .i64 a0_3) ∧ w'.cell? ⟨gb184, 0, none⟩ = some (.int .i64 a1)) (ds := []) #[false, false, false, false, false, false, false, false, false] (by kernel_rfl) rfl rfl cz (fun hH => ?_); refine with_tabW L_BiasOf.tab2 L_BiasOf.bits2 (fun HT_ HW_ => ?_)
   generalize w35.drew = w39 at BK183 BK184 BK185 HB hH ⊢
   refine pZ 4 (some 22) #[false, false, false, false, true, false, false, false, false] HT_ ?_
   refine takeZ 0 (some 18) #[true, false, false, false, true, false, false, false, false] (take_ofW HT_.out HW_.out (by kernel_rfl)) hH ?_
   refine takeZ 2 (some 20) #[true, false, true, false, true, false, false, false, false] (take_ofW HT_.out HW_.out (by kernel_rfl)) hH ?_
   refine oneZ 1 (some 19) #[true, true, true, false, true, false, false, false, false] (one_of HT_.out (by kernel_rfl)) fun K hK => ?_
   refine gz Tryd.func53 #[.agg #[.slice A0_0 l0_0.length c0_0, .slice A0_1 l0_1.length c0_1, .int .i64 a0_2, .int .i64 a0_3]] ?_
   with_reducible refine (L_CheckCase.calls k _ _ l0_0 _ _ l0_1 a0_2 a0_3 t186 _ ?side1 ?side2 ?side3 ?side4 A4.out).mono ?_
   (case side1 => exact cb HR0_0 HB)
   (case side2 => exact HC0_0.out)
   (case side3 => exact cb HR0_1 HB)
   (case side4 => exact HC0_1.out)
   rintro e w40 ⟨rfl, hb⟩
   refine ⟨_, rfl, ?_⟩
   replace BK183 := bb BK183 hb; replace BK184 := bb BK184 hb; replace BK185 := bb BK185 hb; replace HB := sb HB hb
   (try clear hb)
   refine hK.out _ _ cz (fun hH => ?_)
   clear hK K
   refine norm_ (a' := ?_) ?_ ?_
   rotate_left
   ·show Act.put _ (some 19) _ = _
    exact pz
   refine oneZ 3 (some 21) #[true, true, true, true, true, false, false, false, false] (one_of HT_.out (by kernel_rfl)) fun K hK => ?_
   refine gz Tryd.func92 #[.int .i64 a1] ?_
   with_reducible refine (L_kindErr.calls a1 t187 _ A5.out).mono ?_
   rintro e w' ⟨rfl, ⟨nd, rfl⟩⟩
   refine ⟨_, rfl, ?_⟩
   refine hK.out _ _ cz (fun hH => ?_)
   clear hK K
   refine norm_ (a' := ?_) ?_ ?_
   rotate_left
   ·show Act.put _ (some 21) _ = _
    exact pz
   refine oneZ 5 (some 23) #[true, true, true, true, true, true, false, false, false] (one_of HT_.out (by kernel_rfl)) fun K hK => ?_
   refine gz Tryd.func93 #[.bool true, .int .i64 14] ?_
   with_reducible refine (L_unless.calls true 14 t188 _ A6.out).mono ?_
   rintro e w' ⟨rfl, ⟨nd, rfl⟩⟩
   refine ⟨_, rfl, ?_⟩
   refine hK.out _ _ cz (fun hH => ?_)
   clear hK K
   refine norm_ (a' := ?_) ?_ ?_
   rotate_left
   ·show Act.put _ (some 23) _ = _
    exact pz
   refine oneZ 6 (some 24) #[true, true, true, true, true, true, true, false, false] (one_of HT_.out (by kernel_rfl)) fun K hK => ?_
   refine Kd.R_lit_step (Kd.int .i64) _ 31 ?hg (N := 24) ?hd (xs := ([t186, t187, t188] : List Int)) (inner := [.int .i64 t186, .int .i64 t187, .int .i64 t188]) (ok := fun _ => True) (okp := fun _ => True) ?hr ?hp (fun _ hk => hk) trivial (Below.refl _ _) (Nat.le_refl _) (by simp) ?_; (case hd => rfl); (case hg => rfl); (case hr => first | (go_simp; done) | (go_simp; rfl)); (case hp => exact (Reps.one (show Kd.M (Kd.int .i64) _ _ _ t186 [.int .i64 t186] from rfl) (Reps.one (show Kd.M (Kd.int .i64) _ _ _ t187 [.int .i64 t187] from rfl) (Reps.one (show Kd.M (Kd.int .i64) _ _ _ t188 [.int .i64 t188] from rfl) (Reps.none _ _)))))
   intro v190 w41 ho42 hb hg_ hnew_
   clear hg_ hnew_
   (first | rw [← Ny189.out] at ho42 | (simp only [Int.reduceToNat] at ho42; rw [← Ny189.out] at ho42))
   have HO191 := m0 (Kd.R_lower ho42 (below_size bz)); replace BK183 := bb BK183 hb; replace BK184 := bb BK184 hb; replace BK185 := bb BK185 hb; replace HB := sb HB hb
   clear hb ho42
   obtain ⟨Ao43, co43, eo43⟩ := Kd.R_slice HO191.out
   subst eo43
   refine hK.out _ _ cz (fun hH => ?_)
   clear hK K
   refine norm_ (a' := ?_) ?_ ?_
   rotate_left
   ·show Act.put _ (some 24) _ = _
    exact pz
   refine oneZ 7 (some 25) #[true, true, true, true, true, true, true, true, false] (one_of HT_.out (by kernel_rfl)) fun K hK => ?_
   refine gz Tryd.func91 #[.slice Ao43 y189.length co43] ?_
   with_reducible refine (L_first.calls k _ _ y189 t192 _ ?side1 ?side2 A7.out).mono ?_
   (case side1 => exact bc (Kd.R_reads' HO191.out).2.2)
   (case side2 => exact (Kd.R_reads' HO191.out).2.1)
   rintro e w' ⟨rfl, ⟨nd, rfl⟩⟩
   refine ⟨_, rfl, ?_⟩
   refine hK.out _ _ cz (fun hH => ?_)
   clear hK K
   refine norm_ (a' := ?_) ?_ ?_
   rotate_left
   ·show Act.put _ (some 25) _ = _
    exact pz
   refine pZ 8 (some 7) #[true, true, true, true, true, true, true, true, true] HT_ ?_
   refine done_ (done_of HT_.out (by kernel_rfl)) ?_
   have hnb44 := NB185_183.out
   have hnc44 := NB183_185.out
   obtain ⟨_, _, _, _⟩ := b2 BK185
   try go_wp2
   refine bodyPostM_ret (results_ct rfl _ _ gb185 26 #[.int .i64 0, .int .i64 0] (0, 0) _ rfl (bq BK185.out) Tryd.underlying26 rfl (by kernel_rfl)) rfl ?_
   exact ez
 ·rw [if_neg c3] at H
  have c3b0 := beq_eq_false_iff_ne.mpr c3
  have c3b1 := bne_iff_ne.mpr c3
  replace H := ob H
  obtain ⟨t195, A46, H⟩ := H
  (try dsimp only at H)
  replace A46 := m0 A46
  replace H := ob H
  obtain ⟨t196, A47, H⟩ := H
  (try dsimp only at H)
  replace A47 := m0 A47
  replace H := ob H
  obtain ⟨t197, A48, H⟩ := H
  (try dsimp only at H)
  replace A48 := m0 A48
  obtain ⟨y198, hy198⟩ : ∃ y_ : List Int, y_ = (([t195, t196, t197] : List Int)) := ⟨_, rfl⟩
  replace H : ((L_first.f k y198).bind fun t201 => (if t201 = 0 then (L_BiasOf_rest.f k l0_0 l0_1 a0_2 a0_3 a1) else (some (0, 0, t201)))) = some (r1, r2, r3) := by first | (rw [hy198]; with_reducible exact H) | (have H2_ := (Option.bind_some _ _).symm.trans H; rw [hy198]; with_reducible exact H2_) | (have H2_ := (Option.bind_some _ _).symm.trans H; with_reducible exact H2_) | with_reducible exact H | (rw [hy198]; exact H) | exact H
  have Ny198 := m0 hy198
  clear hy198
  replace H := ob H
  obtain ⟨t201, A49, H⟩ := H
  (try dsimp only at H)
  replace A49 := m0 A49
  by_cases c50 : t201 = 0
  ·rw [if_pos c50] at H
   have c50b0 := beq_iff_eq.mpr c50
   have c50b1 := bne_eq_false_iff_eq.mpr c50
   clear c50
   refine (callsIn_wide (n := 9)).1 (callsIn_of_wp_marks Tryd.func20 rfl trivial (wpIn_mono (Q := QM 9 Tryd.prog Tryd.f20 _) (wpIn_wide.2 ?_) (fun _ _ _ h => QM.le h)) rfl)
   simp only [Tryd.ntmps20, List.size_toArray, List.length_cons, List.length_nil, Nat.reduceAdd, Nat.reduceSub, Array.replicate_succ, Array.replicate_zero, List.push_toArray, List.append_toArray, List.nil_append, List.cons_append]
   try go_wp2_with (first | ((with_reducible refine gate_dst (N := 2) rfl ?_); refine be 2 28 #[.slice A0_0 l0_0.length c0_0, .slice A0_1 l0_1.length c0_1, .int .i64 a0_2, .int .i64 a0_3] ?_; intro gb183 hg w51 hbox hb; have BK183 := m0 hbox; have GE183 := gw w hg; replace HB := sb HB hb; clear hb hbox hg) | ((with_reducible refine gate_dst (N := 3) rfl ?_); refine be 3 3 #[.int .i64 a1] ?_; intro gb184 hg w52 hbox hb; have BK184 := m0 hbox; have GE184 := gw w hg; replace HB := sb HB hb; have NB183_184 := nl BK183 hg; have NB184_183 := ng (nl BK183 hg); replace BK183 := bb BK183 hb; clear hb hbox hg) | ((with_reducible refine gate_dst (N := 4) rfl ?_); refine be 4 26 #[.int .i64 0, .int .i64 0] ?_; intro gb185 hg w53 hbox hb; have BK185 := m0 hbox; have GE185 := gw w hg; replace HB := sb HB hb; have NB183_185 := nl BK183 hg; have NB185_183 := ng (nl BK183 hg); replace BK183 := bb BK183 hb; have NB184_185 := nl BK184 hg; have NB185_184 := ng (nl BK184 hg); replace BK184 := bb BK184 hb; clear hb hbox hg; have hnb54 := NB184_183.out; have hnc54 := NB183_184.out; have hnb55 := NB184_185.out; have hnc55 := NB185_184.out; obtain ⟨_, _⟩ := b1 BK184))
   replace BK183 := bd BK183; replace BK184 := bd BK184; replace BK185 := bd BK185; replace HB := sd HB
   refine start_ (n := 9) (S := fun w' => w'.cell? ⟨gb183, 0, none⟩ = some (.slice A0_0 l0_0.length c0_0) ∧ w'.cell? ⟨gb183, 1, none⟩ = some (.slice A0_1 l0_1.length c0_1) ∧ w'.cell? ⟨gb183, 2, none⟩ = some (.int .i64 a0_2) ∧ w'.cell? ⟨gb183, 3, none⟩ = some (.int .i64 a0_3) ∧ w'.cell? ⟨gb184, 0, none⟩ = some (.int .i64 a1)) (ds := []) #[false, false, false, false, false, false, false, false, false] (by kernel_rfl) rfl rfl cz (fun hH => ?_); refine with_tabW L_BiasOf.tab2 L_BiasOf.bits2 (fun HT_ HW_ => ?_)
   generalize w53.drew = w57 at BK183 BK184 BK185 HB hH ⊢
   refine pZ 4 (some 22) #[false, false, false, false, true, false, false, false, false] HT_ ?_
   refine takeZ 0 (some 18) #[true, false, false, false, true, false, false, false, false] (take_ofW HT_.out HW_.out (by kernel_rfl)) hH ?_
   refine takeZ 2 (some 20) #[true, false, true, false, true, false, false, false, false] (take_ofW HT_.out HW_.out (by kernel_rfl)) hH ?_
   refine oneZ 1 (some 19) #[true, true, true, false, true, false, false, false, false] (one_of HT_.out (by kernel_rfl)) fun K hK => ?_
   refine gz Tryd.func53 #[.agg #[.slice A0_0 l0_0.length c0_0, .slice A0_1 l0_1.length c0_1, .int .i64 a0_2, .int .i64 a0_3]] ?_
   with_reducible refine (L_CheckCase.calls k _ _ l0_0 _ _ l0_1 a0_2 a0_3 t195 _ ?side1 ?side2 ?side3 ?side4 A46.out).mono ?_
   (case side1 => exact cb HR0_0 HB)
   (case side2 => exact HC0_0.out)
   (case side3 => exact cb HR0_1 HB)
   (case side4 => exact HC0_1.out)
   rintro e w58 ⟨rfl, hb⟩
   refine ⟨_, rfl, ?_⟩
   replace BK183 := bb BK183 hb; replace BK184 := bb BK184 hb; replace BK185 := bb BK185 hb; replace HB := sb HB hb
   (try clear hb)
   refine hK.out _ _ cz (fun hH => ?_)
   clear hK K
   refine norm_ (a' := ?_) ?_ ?_
   rotate_left
   ·show Act.put _ (some 19) _ = _
    exact pz
   refine oneZ 3 (some 21) #[true, true, true, true, true, false, false, false, false] (one_of HT_.out (by kernel_rfl)) fun K hK => ?_
   refine gz Tryd.func92 #[.int .i64 a1] ?_
   with_reducible refine (L_kindErr.calls a1 t196 _ A47.out).mono ?_
   rintro e w' ⟨rfl, ⟨nd, rfl⟩⟩
   refine ⟨_, rfl, ?_⟩
   refine hK.out _ _ cz (fun hH => ?_)
   clear hK K
   refine norm_ (a' := ?_) ?_ ?_
   rotate_left
   ·show Act.put _ (some 21) _ = _
    exact pz
   refine oneZ 5 (some 23) #[true, true, true, true, true, true, false, false, false] (one_of HT_.out (by kernel_rfl)) fun K hK => ?_
   refine gz Tryd.func93 #[.bool (a1 == 3), .int .i64 14] ?_
   with_reducible refine (L_unless.calls (a1 == 3) 14 t197 _ A48.out).mono ?_
   rintro e w' ⟨rfl, ⟨nd, rfl⟩⟩
   refine ⟨_, rfl, ?_⟩
   refine hK.out _ _ cz (fun hH => ?_)
   clear hK K
   refine norm_ (a' := ?_) ?_ ?_
   rotate_left
   ·show Act.put _ (some 23) _ = _
    exact pz
   refine oneZ 6 (some 24) #[true, true, true, true, true, true, true, false, false] (one_of HT_.out (by kernel_rfl)) fun K hK => ?_
   refine Kd.R_lit_step (Kd.int .i64) _ 31 ?hg (N := 24) ?hd (xs := ([t195, t196, t197] : List Int)) (inner := [.int .i64 t195, .int .i64 t196, .int .i64 t197]) (ok := fun _ => True) (okp := fun _ => True) ?hr ?hp (fun _ hk => hk) trivial (Below.refl _ _) (Nat.le_refl _) (by simp) ?_; (case hd => rfl); (case hg => rfl); (case hr => first | (go_simp; done) | (go_simp; rfl)); (case hp => exact (Reps.one (show Kd.M (Kd.int .i64) _ _ _ t195 [.int .i64 t195] from rfl) (Reps.one (show Kd.M (Kd.int .i64) _ _ _ t196 [.int .i64 t196] from rfl) (Reps.one (show Kd.M (Kd.int .i64) _ _ _ t197 [.int .i64 t197] from rfl) (Reps.none _ _)))))
   intro v199 w59 ho60 hb hg_ hnew_
   clear hg_ hnew_
   (first | rw [← Ny198.out] at ho60 | (simp only [Int.reduceToNat] at ho60; rw [← Ny198.out] at ho60))
   have HO200 := m0 (Kd.R_lower ho60 (below_size bz)); replace BK183 := bb BK183 hb; replace BK184 := bb BK184 hb; replace BK185 := bb BK185 hb; replace HB := sb HB hb
   clear hb ho60
   obtain ⟨Ao61, co61, eo61⟩ := Kd.R_slice HO200.out
   subst eo61
   refine hK.out _ _ cz (fun hH => ?_)
   clear hK K
   refine norm_ (a' := ?_) ?_ ?_
   rotate_left
   ·show Act.put _ (some 24) _ = _
    exact pz
   refine oneZ 7 (some 25) #[true, true, true, true, true, true, true, true, false] (one_of HT_.out (by kernel_rfl)) fun K hK => ?_
   refine gz Tryd.func91 #[.slice Ao61 y198.length co61] ?_
   with_reducible refine (L_first.calls k _ _ y198 t201 _ ?side1 ?side2 A49.out).mono ?_
   (case side1 => exact bc (Kd.R_reads' HO200.out).2.2)
   (case side2 => exact (Kd.R_reads' HO200.out).2.1)
   rintro e w' ⟨rfl, ⟨nd, rfl⟩⟩
   refine ⟨_, rfl, ?_⟩
   refine hK.out _ _ cz (fun hH => ?_)
   clear hK K
   refine norm_ (a' := ?_) ?_ ?_
   rotate_left
   ·show Act.put _ (some 25) _ = _
    exact pz
   refine pZ 8 (some 7) #[true, true, true, true, true, true, true, true, true] HT_ ?_
   refine done_ (done_of HT_.out (by kernel_rfl)) ?_
   try go_wp2_with (first | ((with_reducible refine gate_dst (N := 8) rfl ?_); refine be 8 3 #[.int .i64 0] ?_; intro gb202 hg w62 hbox hb; replace HO200 := rb HO200 hb; have BK202 := m0 hbox; have GE202 := gw w hg; replace HB := sb HB hb; have NB183_202 := nl BK183 hg; have NB202_183 := ng (nl BK183 hg); replace BK183 := bb BK183 hb; have NB184_202 := nl BK184 hg; have NB202_184 := ng (nl BK184 hg); replace BK184 := bb BK184 hb; have NB185_202 := nl BK185 hg; have NB202_185 := ng (nl BK185 hg); replace BK185 := bb BK185 hb; clear hb hbox hg) | ((with_reducible refine gate_dst (N := 9) rfl ?_); refine be 9 3 #[.int .i64 0] ?_; intro gb203 hg w63 hbox hb; replace HO200 := rb HO200 hb; have BK203 := m0 hbox; have GE203 := gw w hg; replace HB := sb HB hb; have NB183_203 := nl BK183 hg; have NB203_183 := ng (nl BK183 hg); replace BK183 := bb BK183 hb; have NB184_203 := nl BK184 hg; have NB203_184 := ng (nl BK184 hg); replace BK184 := bb BK184 hb; have NB185_203 := nl BK185 hg; have NB203_185 := ng (nl BK185 hg); replace BK185 := bb BK185 hb; have NB202_203 := nl BK202 hg; have NB203_202 := ng (nl BK202 hg); replace BK202 := bb BK202 hb; clear hb hbox hg; have hnb64 := NB202_183.out; have hnc64 := NB183_202.out; have hnb65 := NB202_184.out; have hnc65 := NB184_202.out; have hnb66 := NB202_185.out; have hnc66 := NB185_202.out; have hnb67 := NB202_203.out; have hnc67 := NB203_202.out; obtain ⟨_, _⟩ := b1 BK202; have hnb69 := NB203_183.out; have hnc69 := NB183_203.out; have hnb70 := NB203_184.out; have hnc70 := NB184_203.out; have hnb71 := NB203_185.out; have hnc71 := NB185_203.out; obtain ⟨_, _⟩ := b1 BK203; have hnb73 := NB183_185.out; have hnc73 := NB185_183.out; obtain ⟨_, _, _, _, _, _, _, _⟩ := b4 BK183))
   go_wp2_with (first | (go_at_call 94; refine (L_each.calls_own _ _ _ _ _ _ _).mono ?_; rintro e w' ⟨rfl, rfl⟩))
   unfold L_BiasOf_rest.f at H
   obtain ⟨⟨all, few⟩, hall, H⟩ := ob H
   by_cases h0 : 0 ≤ all
   case neg => rw [if_neg h0] at H; exact absurd H (by simp)
   rw [if_pos h0] at H
   by_cases hbig : all ≤ 1000000
   case neg => rw [if_neg hbig] at H; exact absurd H (by simp)
   rw [if_pos hbig] at H
   obtain ⟨⟨tot, cnt⟩, hit, H⟩ := ob H
   obtain ⟨⟨q1, q2⟩, hfr, H⟩ := ob H
   simp only [Option.some.injEq, Prod.mk.injEq] at H
   obtain ⟨rfl, rfl, rfl⟩ := H
   replace hit : iterN (L_BiasOf_rest.step k l0_0 l0_1 a1) all.toNat (0, 0) = some (tot, cnt) := hit
   replace hfr : L_fraction.f k (wrap64 (wrap64 (tot * a0_3) - wrap64 (a0_2 * cnt))) (wrap64 (cnt * a0_3)) = some (q1, q2) := hfr
   replace hall : L_cases.f k l0_1 l0_0.length = some (all, few) := hall
   have n89 := NB202_203.out
   have n28 := NB183_202.out
   have n29 := NB183_203.out
   have n38 := NB184_202.out
   have n39 := NB184_203.out
   have n48 := NB185_202.out
   have n49 := NB185_203.out
   have e8 := GE202.out
   have e9 := GE203.out
   have e4 := GE185.out
   obtain ⟨Wb, hWb⟩ := world_of BK183.out
   subst hWb
   obtain ⟨W0, hW0⟩ : ∃ W0, (((Wb.setCell ⟨gb202, 0, none⟩ (.int .i64 0)).setCell ⟨gb203, 0, none⟩ (.int .i64 0)).alloc (.cells #[.slice A0_0 l0_0.length c0_0] 22)).alloc (.cells #[.slice A0_1 l0_1.length c0_1] 24) = W0 := ⟨_, rfl⟩
   have hz : W0.heap.size = Wb.heap.size + 2 := by rw [← hW0]; simp [World.setCell]
   have hb0 : Below w.heap.size w W0 := by rw [← hW0]; exact bz
   have k2 : W0.heap[gb183]? = some (.cells #[.slice A0_0 l0_0.length c0_0, .slice A0_1 l0_1.length c0_1, .int .i64 a0_2, .int .i64 a0_3] 28 (0, 0)) := by rw [← hW0]; exact (bq BK183.out)
   have k3 : W0.heap[gb184]? = some (.cells #[.int .i64 a1] 3 (0, 0)) := by rw [← hW0]; exact (bq BK184.out)
   have k4 : W0.heap[gb185]? = some (.cells #[.int .i64 0, .int .i64 0] 26 (0, 0)) := by rw [← hW0]; exact (bq BK185.out)
   have k8 : W0.heap[gb202]? = some (.cells #[.int .i64 0] 3 (0, 0)) := by rw [← hW0]; exact (by (with_reducible repeat (first | refine blk_drewN ?_ _ | refine blk_drew ?_ | refine blk_alloc ?_ _)); refine blk_far ?_ NB202_203.out _; (with_reducible repeat (first | refine blk_drewN ?_ _ | refine blk_drew ?_ | refine blk_alloc ?_ _)); refine blk_put (cs := #[.int .i64 0]) ?_ 0 _ rfl; (with_reducible repeat (first | refine blk_drewN ?_ _ | refine blk_drew ?_ | refine blk_alloc ?_ _)); exact BK202.out)
   have k9 : W0.heap[gb203]? = some (.cells #[.int .i64 0] 3 (0, 0)) := by rw [← hW0]; exact (by (with_reducible repeat (first | refine blk_drewN ?_ _ | refine blk_drew ?_ | refine blk_alloc ?_ _)); refine blk_put (cs := #[.int .i64 0]) ?_ 0 _ rfl; (with_reducible repeat (first | refine blk_drewN ?_ _ | refine blk_drew ?_ | refine blk_alloc ?_ _)); refine blk_far ?_ NB203_202.out _; (with_reducible repeat (first | refine blk_drewN ?_ _ | refine blk_drew ?_ | refine blk_alloc ?_ _)); exact BK203.out)
   have l8 := blk_lt BK202.out
   have l9 := blk_lt BK203.out
   have ks : W0.heap[Wb.heap.size]? = some (.cells #[.slice A0_0 l0_0.length c0_0] 22 (0, 0)) := by
    rw [← hW0]; apply blk_alloc
    have := blk_new ((Wb.setCell ⟨gb202, 0, none⟩ (.int .i64 0)).setCell ⟨gb203, 0, none⟩ (.int .i64 0)) (.cells #[.slice A0_0 l0_0.length c0_0] 22 (0, 0)); simpa [World.setCell] using this
   have kx : W0.heap[Wb.heap.size + 1]? = some (.cells #[.slice A0_1 l0_1.length c0_1] 24 (0, 0)) := by
    rw [← hW0]
    have := blk_new (((Wb.setCell ⟨gb202, 0, none⟩ (.int .i64 0)).setCell ⟨gb203, 0, none⟩ (.int .i64 0)).alloc (.cells #[.slice A0_0 l0_0.length c0_0] 22)) (.cells #[.slice A0_1 l0_1.length c0_1] 24 (0, 0)); simpa [World.setCell] using this
   rw [hW0]
   clear hW0
   have hrow : ∀ j : Nat, (j : Int) < all → L_noisy.f k l0_0 l0_1 j = some ((L_noisy.f k l0_0 l0_1 j).getD []) := fun j hj => by
    obtain ⟨q, hq⟩ := iterN_pre hit (show j ≤ all.toNat by omega)
    obtain ⟨q', hq', _⟩ := iterN_at hit (show j < all.toNat by omega) hq
    obtain ⟨row, hr, _⟩ := Option.bind_eq_some_iff.mp hq'
    rw [hr]; rfl
   have hY := L_each.yields 8 k (by decide) A0_0 A0_1 c0_0 c0_1 l0_0 l0_1 all few (fun j => (L_noisy.f k l0_0 l0_1 j).getD []) w (Wb.heap.size + 1) Wb.heap.size W0 hb0 ((blk_cell kx 0).trans rfl) ((blk_cell ks 0).trans rfl) HR0_0.out HC0_0.out HR0_1.out HC0_1.out hall h0 hbig hrow
   have HIT := m0 hit
   have HFR := m0 hfr
   have HY := m0 hY
   refine wpIn_wide.1 (wpIn_rangeN2 (n := 9) rfl (by decide) (gf := 131) (lb := #[.pointer (some ⟨Wb.heap.size + 1, 0, none⟩), .pointer (some ⟨Wb.heap.size, 0, none⟩)]) rfl trivial (enters_of Tryd.func131 (by kernel_rfl) rfl) HY.out
    (L_each.Rd_putObj) (fun h k => h.trans k) (fun W l o o' hl h hc hw => L_each.Kp_putObj (w := W0) (v1 := undef) (v2 := undef) (Nat.le_trans hb0.size (Nat.le_refl _)) W l o o' hl h hc hw (by omega) (by omega)) (Below.refl _ _) (fun _ _ => rfl)
    (fun j W => (∃ s : Int × Int, iterN (L_BiasOf_rest.step k l0_0 l0_1 a1) j (0, 0) = some s ∧ W.heap[gb202]? = some (.cells #[.int .i64 s.1] 3 (0, 0)) ∧ W.heap[gb203]? = some (.cells #[.int .i64 s.2] 3 (0, 0)) ∧ W.heap[gb183]? = some (.cells #[.slice A0_0 l0_0.length c0_0, .slice A0_1 l0_1.length c0_1, .int .i64 a0_2, .int .i64 a0_3] 28 (0, 0)) ∧ W.heap[gb184]? = some (.cells #[.int .i64 a1] 3 (0, 0)) ∧ W.heap[gb185]? = some (.cells #[.int .i64 0, .int .i64 0] 26 (0, 0)) ∧ W0.heap.size ≤ W.heap.size) ∧ Below w.heap.size w W)
    (fun _ _ _ => False)
    (OwnFrom.and (fun j A B row hs hg hr => by
     obtain ⟨s, h1, h2, h3, h4, h5, h6, h7⟩ := hs
     exact ⟨s, h1, blk_own h2 hg hr, blk_own h3 hg hr, blk_own h4 hg hr, blk_own h5 hg hr, blk_own h6 hg hr, Nat.le_trans h7 hg.size⟩) (ownFrom_below (Nat.le_refl _) hb0.size))
    (fun _ _ _ _ _ hs _ _ => hs)
    ⟨⟨(0, 0), rfl, k8, k9, k2, k3, k4, Nat.le_refl _⟩, hb0⟩ ?round ?done ?stop)
   case stop =>
    rintro D c j W _ _ h _
    exact h.elim
   case round =>
    intro l j x W K hj hK
    have HKK := m0 hK
    clear hK
    gi_wp2
    refine HKK.out _ ?_
    clear HKK
    rintro W ⟨⟨⟨s1, s2⟩, hs, h8, h9, h2, h3, h4, h6⟩, hB⟩ ⟨A, c, hx, hc, hC, hm⟩
    obtain ⟨q', hq', hq1⟩ := iterN_at HIT.out hj hs
    obtain ⟨row, hr, hq'⟩ := Option.bind_eq_some_iff.mp hq'
    obtain ⟨⟨m1, m2⟩, hmx, hq'⟩ := Option.bind_eq_some_iff.mp hq'
    have er : (L_noisy.f k l0_0 l0_1 (j : Int)).getD [] = row := by rw [hr]; rfl
    simp only [er] at hx hc hC
    subst hx
    obtain rfl := Option.some.inj hq'
    have hEst := EstG.below HG.out hB
    have hcall : ∀ W5 : World, W5.heap = W.heap → W5.os = W.os → W5.tape = W.tape → W5.output = W.output → Calls Tryd.prog 95 #[.slice A row.length c, .int .i64 a1] W5 fun e w5 => e = .returned (.agg #[.int .i64 m1, .int .i64 m2]) ∧ w5.heap[gb202]? = some (.cells #[.int .i64 s1] 3 (0, 0)) ∧ w5.heap[gb203]? = some (.cells #[.int .i64 s2] 3 (0, 0)) ∧ w5.heap[gb184]? = some (.cells #[.int .i64 a1] 3 (0, 0)) ∧ Aside0 (Below W.heap.size W w5) := fun W5 hh ho ht hp => by
     refine (Sp_estimate.calls k A c row a1 m1 m2 W5 (C_blocks hC (fun ad e => by rw [hh])) hc (EstG.below hEst ⟨ho, ht, hp, by rw [hh]; exact Nat.le_refl _, fun i _ => by rw [hh]⟩) hmx).mono ?_
     rintro e w5 ⟨rfl, hb⟩
     have hb' := below_heap hb hh ho ht hp
     exact ⟨rfl, blk_below h8 hb', blk_below h9 hb', blk_below h3 hb', ⟨hb'⟩⟩
    have HCALL := m0 hcall
    have hpan : ∀ c a w', ¬ leftN (L_each.Kp w.heap.size (Wb.heap.size + 1) Wb.heap.size) (fun j W => (∃ s : Int × Int, iterN (L_BiasOf_rest.step k l0_0 l0_1 a1) j (0, 0) = some s ∧ W.heap[gb202]? = some (.cells #[.int .i64 s.1] 3 (0, 0)) ∧ W.heap[gb203]? = some (.cells #[.int .i64 s.2] 3 (0, 0)) ∧ W.heap[gb183]? = some (.cells #[.slice A0_0 l0_0.length c0_0, .slice A0_1 l0_1.length c0_1, .int .i64 a0_2, .int .i64 a0_3] 28 (0, 0)) ∧ W.heap[gb184]? = some (.cells #[.int .i64 a1] 3 (0, 0)) ∧ W.heap[gb185]? = some (.cells #[.int .i64 0, .int .i64 0] 26 (0, 0)) ∧ W0.heap.size ≤ W.heap.size) ∧ Below w.heap.size w W) (fun _ _ _ => False) (j + 1) W (.panic c) a w' := fun _ _ _ h => h
    have hout : ¬ LetsOut (leftN (L_each.Kp w.heap.size (Wb.heap.size + 1) Wb.heap.size) (fun j W => (∃ s : Int × Int, iterN (L_BiasOf_rest.step k l0_0 l0_1 a1) j (0, 0) = some s ∧ W.heap[gb202]? = some (.cells #[.int .i64 s.1] 3 (0, 0)) ∧ W.heap[gb203]? = some (.cells #[.int .i64 s.2] 3 (0, 0)) ∧ W.heap[gb183]? = some (.cells #[.slice A0_0 l0_0.length c0_0, .slice A0_1 l0_1.length c0_1, .int .i64 a0_2, .int .i64 a0_3] 28 (0, 0)) ∧ W.heap[gb184]? = some (.cells #[.int .i64 a1] 3 (0, 0)) ∧ W.heap[gb185]? = some (.cells #[.int .i64 0, .int .i64 0] 26 (0, 0)) ∧ W0.heap.size ≤ W.heap.size) ∧ Below w.heap.size w W) (fun _ _ _ => False) (j + 1) W) := fun ⟨_, _, h⟩ => h
    generalize hLEFT : leftN _ _ _ _ _ = LEFT at hpan hout ⊢
    have hyes : ∀ (w7 : World) (a : Act), Aside0 (Below W.heap.size W w7) → LEFT Exit.normal a ((w7.setCell ⟨gb202, 0, none⟩ (.int .i64 (wrap64 (s1 + m1)))).setCell ⟨gb203, 0, none⟩ (.int .i64 (wrap64 (s2 + 1)))) := by
     intro w7 a hb'
     have hb := hb'.out
     rw [← hLEFT]
     have hsz := hb.size
     have g8 := blk_below h8 hb
     have g9 := blk_below h9 hb
     refine ⟨((others_below hb).trans (KeepsOthers.setCell _ _ _)).trans (KeepsOthers.setCell _ _ _), ((show L_each.Kp w.heap.size (Wb.heap.size + 1) Wb.heap.size W w7 from ⟨hb.mono (Nat.le_trans hb0.size h6), World.cell?_of_block (hb.block _ (show Wb.heap.size + 1 < _ by omega)), World.cell?_of_block (hb.block _ (show Wb.heap.size < _ by omega))⟩).setCell e8 (by omega) (by omega)).setCell e9 (by omega) (by omega), ⟨_, hq1, ?_, ?_, ?_, ?_, ?_, ?_⟩, ?_⟩
     ·exact blk_ne_set (blk_put g8 0 _ rfl) n89
     ·exact blk_put (blk_ne_set g9 (fun e => n89 e.symm)) 0 _ rfl
     ·exact blk_ne_set (blk_ne_set (blk_below h2 hb) n28) n29
     ·exact blk_ne_set (blk_ne_set (blk_below h3 hb) n38) n39
     ·exact blk_ne_set (blk_ne_set (blk_below h4 hb) n48) n49
     ·simpa [World.setCell] using Nat.le_trans h6 hsz
     ·exact ((hB.trans (hb.mono (Nat.le_trans hb0.size h6))).setCell (p := ⟨gb202, 0, none⟩) e8 _).setCell (p := ⟨gb203, 0, none⟩) e9 _
    have HYES := m0 hyes
    have N89 := m0 n89
    have N38 := m0 n38
    have HPAN := m0 hpan
    have HOUT := m0 hout
    have c8 : W.cell? ⟨gb202, 0, none⟩ = some (.int .i64 s1) := (blk_cell h8 0).trans rfl
    have c9 : W.cell? ⟨gb203, 0, none⟩ = some (.int .i64 s2) := (blk_cell h9 0).trans rfl
    have c3 : W.cell? ⟨gb184, 0, none⟩ = some (.int .i64 a1) := (blk_cell h3 0).trans rfl
    have hmo : Tryd.prog.follows .mixedOrders = true := by kernel_rfl
    clear hpan hout hyes hLEFT hcall hs hr hmx hq1 hC hm hB h8 h9 h2 h3 h4 h6 hc hj er hEst hrow hY k2 k3 k4 k8 k9 ks kx hb0 hz hall h0 hbig hit hfr n89 n28 n29 n38 n39 n48 n49 e8 e9 e4 l8 l9
    gi_wp2
    refine startR_ (S := fun w' => w'.cell? ⟨gb203, 0, none⟩ = some (.int .i64 s2) ∧ w'.cell? ⟨gb184, 0, none⟩ = some (.int .i64 a1)) (ds := [9]) #[false, false, false, false, false, false, false, false, false, false] hmo (by kernel_rfl) HOUT.out rfl rfl ⟨c9, c3⟩ (fun hH => ?_)
    refine with_tabW L_BiasOf_rest.tab8 L_BiasOf_rest.bits8 (fun HT_ HW_ => ?_)
    refine pure_ (i := 1) (N := some 38) (v := ?_) (a' := ?_) #[false, true, false, false, false, false, false, false, false, false] rfl rfl (any_of HT_.out (by kernel_rfl)) (fun _ _ _ h => (HPAN.out _ _ _ h).elim) (Or.inl ⟨by rfl, ?_⟩) ?_ ?_
    rotate_left
    ·intro w'
     go_simp
     with_reducible rfl
    rotate_left
    ·exact pz
    refine take_ (i := 2) (N := some 39) (v := ?_) (a' := ?_) #[false, true, true, false, false, false, false, false, false, false] rfl rfl (take_ofW HT_.out HW_.out (by kernel_rfl)) (fun _ _ _ h => (HPAN.out _ _ _ h).elim) (Or.inl ⟨by rfl, ?_⟩) hH ?_ ?_
    rotate_left
    ·rintro w' ⟨s0, s1⟩
     go_simp
     with_reducible rfl
    rotate_left
    ·exact pz
    refine take_ (i := 6) (N := some 43) (v := ?_) (a' := ?_) #[false, true, true, false, false, false, true, false, false, false] rfl rfl (take_ofW HT_.out HW_.out (by kernel_rfl)) (fun _ _ _ h => (HPAN.out _ _ _ h).elim) (Or.inl ⟨by rfl, ?_⟩) hH ?_ ?_
    rotate_left
    ·rintro w' ⟨s0, s1⟩
     go_simp
     with_reducible rfl
    rotate_left
    ·exact pz
    refine pure_ (i := 7) (N := some 44) (v := ?_) (a' := ?_) #[false, true, true, false, false, false, true, true, false, false] rfl rfl (any_of HT_.out (by kernel_rfl)) (fun _ _ _ h => (HPAN.out _ _ _ h).elim) (Or.inl ⟨by rfl, ?_⟩) ?_ ?_
    rotate_left
    ·intro w'
     go_simp
     with_reducible rfl
    rotate_left
    ·exact pz
    refine two_ (i := 0) (j := 3) (Ni := some 37) (Nj := some 40) #[true, true, true, false, false, false, true, true, false, false] #[false, true, true, true, false, false, true, true, false, false] rfl rfl rfl rfl (two_of HT_.out (by kernel_rfl)) (by decide) (by decide) (fun K hK => ?_) (fun K hK => ?_)
    ·refine value_ (v := .int .i64 s1) (w1 := W.drew) (by rfl) rfl (by go_simp) ?_
     refine hK.out _ _ hH (fun hH => ?_)
     clear hK K
     refine norm_ (a' := ?_) ?_ ?_
     rotate_left
     ·show Act.put _ (some 37) _ = _
      exact pz
     refine oneZ 3 (some 40) #[true, true, true, true, false, false, true, true, false, false] (one_of HT_.out (by kernel_rfl)) fun K hK => ?_
     refine goes_ Tryd.func95 (by kernel_rfl) rfl #[.slice A row.length c, .int .i64 a1] (by rfl) rfl rfl (by (try simp only [List.map_toArray, List.map_cons, List.map_nil]); first | done | rfl) ?_
     refine (HCALL.out _ (by rfl) (by rfl) (by rfl) (by rfl)).mono ?_
     rintro e w5 ⟨rfl, g8, g9, g3, HX⟩
     refine ⟨_, rfl, ?_⟩
     refine hK.out _ _ ⟨(blk_cell g9 0).trans rfl, (blk_cell g3 0).trans rfl⟩ (fun hH => ?_)
     clear hK K
     refine norm_ (a' := ?_) ?_ ?_
     rotate_left
     ·show Act.put _ (some 40) _ = _
      exact pz
     refine pure_ (i := 4) (N := some 41) (v := ?_) (a' := ?_) #[true, true, true, true, true, false, true, true, false, false] rfl rfl (any_of HT_.out (by kernel_rfl)) (fun _ _ _ h => (HPAN.out _ _ _ h).elim) (Or.inl ⟨by rfl, ?_⟩) ?_ ?_
     rotate_left
     ·intro w'
      go_simp
      with_reducible rfl
     rotate_left
     ·exact pz
     refine pure_ (i := 5) (N := some 42) (v := ?_) (a' := ?_) #[true, true, true, true, true, true, true, true, false, false] rfl rfl (any_of HT_.out (by kernel_rfl)) (fun _ _ _ h => (HPAN.out _ _ _ h).elim) (Or.inl ⟨by rfl, ?_⟩) ?_ ?_
     rotate_left
     ·intro w'
      go_simp
      with_reducible rfl
     rotate_left
     ·exact pz
     refine oneZ 8 (none) #[true, true, true, true, true, true, true, true, true, false] (one_of HT_.out (by kernel_rfl)) fun K hK => ?_
     have d8 : w5.cell? ⟨gb202, 0, none⟩ = some (.int .i64 s1) := (blk_cell g8 0).trans rfl
     have f8 : w5.frozen? ⟨gb202, 0, none⟩ = false := blk_frozen g8 0
     refine skip_ (w1 := ?_) (by rfl) rfl ?_ ?_
     rotate_left
     ·go_simp
      rfl
     have q9 := blk_ne_set (b := gb202) (i := 0) (u := .int .i64 (wrap64 (s1 + m1))) g9 (fun e => N89.out e.symm)
     have q3 := blk_ne_set (b := gb202) (i := 0) (u := .int .i64 (wrap64 (s1 + m1))) g3 N38.out
     refine hK.out _ _ ⟨(blk_cell q9 0).trans rfl, (blk_cell q3 0).trans rfl⟩ (fun hH => ?_)
     clear hK K d8 f8
     refine last_ (i := 9) (N := none) #[true, true, true, true, true, true, true, true, true, true] rfl rfl (one_of HT_.out (by kernel_rfl)) (by decide) (fun K hK => ?_)
     have d9 := (blk_cell q9 0).trans rfl
     have f9 := blk_frozen q9 0
     refine skip_ (w1 := ?_) (by rfl) rfl ?_ ?_
     rotate_left
     ·go_simp
      rfl
     refine hK.out _ _ ?_
     clear hK K
     refine done_ (done_of HT_.out (by kernel_rfl)) ?_
     exact HYES.out _ _ HX
    ·refine goes_ Tryd.func95 (by kernel_rfl) rfl #[.slice A row.length c, .int .i64 a1] (by rfl) rfl rfl (by (try simp only [List.map_toArray, List.map_cons, List.map_nil]); first | done | rfl) ?_
     refine (HCALL.out _ (by rfl) (by rfl) (by rfl) (by rfl)).mono ?_
     rintro e w5 ⟨rfl, g8, g9, g3, HX⟩
     refine ⟨_, rfl, ?_⟩
     refine hK.out _ _ ⟨(blk_cell g9 0).trans rfl, (blk_cell g3 0).trans rfl⟩ (fun hH => ?_)
     clear hK K
     refine norm_ (a' := ?_) ?_ ?_
     rotate_left
     ·show Act.put _ (some 40) _ = _
      exact pz
     refine pure_ (i := 4) (N := some 41) (v := ?_) (a' := ?_) #[false, true, true, true, true, false, true, true, false, false] rfl rfl (any_of HT_.out (by kernel_rfl)) (fun _ _ _ h => (HPAN.out _ _ _ h).elim) (Or.inl ⟨by rfl, ?_⟩) ?_ ?_
     rotate_left
     ·intro w'
      go_simp
      with_reducible rfl
     rotate_left
     ·exact pz
     refine oneZ 0 (some 37) #[true, true, true, true, true, false, true, true, false, false] (one_of HT_.out (by kernel_rfl)) fun K hK => ?_
     have d8 : w5.cell? ⟨gb202, 0, none⟩ = some (.int .i64 s1) := (blk_cell g8 0).trans rfl
     refine value_ (v := .int .i64 s1) (w1 := w5) (by rfl) rfl (by go_simp) ?_
     refine hK.out _ _ hH (fun hH => ?_)
     clear hK K d8
     refine norm_ (a' := ?_) ?_ ?_
     rotate_left
     ·show Act.put _ (some 37) _ = _
      exact pz
     refine pure_ (i := 5) (N := some 42) (v := ?_) (a' := ?_) #[true, true, true, true, true, true, true, true, false, false] rfl rfl (any_of HT_.out (by kernel_rfl)) (fun _ _ _ h => (HPAN.out _ _ _ h).elim) (Or.inl ⟨by rfl, ?_⟩) ?_ ?_
     rotate_left
     ·intro w'
      go_simp
      with_reducible rfl
     rotate_left
     ·exact pz
     refine oneZ 8 (none) #[true, true, true, true, true, true, true, true, true, false] (one_of HT_.out (by kernel_rfl)) fun K hK => ?_
     have d8 : w5.cell? ⟨gb202, 0, none⟩ = some (.int .i64 s1) := (blk_cell g8 0).trans rfl
     have f8 : w5.frozen? ⟨gb202, 0, none⟩ = false := blk_frozen g8 0
     refine skip_ (w1 := ?_) (by rfl) rfl ?_ ?_
     rotate_left
     ·go_simp
      rfl
     have q9 := blk_ne_set (b := gb202) (i := 0) (u := .int .i64 (wrap64 (s1 + m1))) g9 (fun e => N89.out e.symm)
     have q3 := blk_ne_set (b := gb202) (i := 0) (u := .int .i64 (wrap64 (s1 + m1))) g3 N38.out
     refine hK.out _ _ ⟨(blk_cell q9 0).trans rfl, (blk_cell q3 0).trans rfl⟩ (fun hH => ?_)
     clear hK K d8 f8
     refine last_ (i := 9) (N := none) #[true, true, true, true, true, true, true, true, true, true] rfl rfl (one_of HT_.out (by kernel_rfl)) (by decide) (fun K hK => ?_)
     have d9 := (blk_cell q9 0).trans rfl
     have f9 := blk_frozen q9 0
     refine skip_ (w1 := ?_) (by rfl) rfl ?_ ?_
     rotate_left
     ·go_simp
      rfl
     refine hK.out _ _ ?_
     clear hK K
     refine done_ (done_of HT_.out (by kernel_rfl)) ?_
     exact HYES.out _ _ HX
   case done =>
    rintro D W hD ⟨⟨s, hs, h8, h9, h2, h3, h4, h6⟩, hB⟩ hK
    rw [HIT.out] at hs
    cases hs
    have H4 := m0 h4
    have HBB := m0 hB
    have H6 := m0 h6
    have HK := m0 hK
    have HD := m0 hD
    have E4 := m0 e4
    have HB0 := m0 hb0
    have L4 := m0 (blk_lt k4)
    have c8 : W.cell? ⟨gb202, 0, none⟩ = some (.int .i64 tot) := (blk_cell h8 0).trans rfl
    have c9 : W.cell? ⟨gb203, 0, none⟩ = some (.int .i64 cnt) := (blk_cell h9 0).trans rfl
    have c22 : W.cell? ⟨gb183, 2, none⟩ = some (.int .i64 a0_2) := (blk_cell h2 2).trans rfl
    have c23 : W.cell? ⟨gb183, 3, none⟩ = some (.int .i64 a0_3) := (blk_cell h2 3).trans rfl
    clear h8 h9 h2 h3 h4 hB h6 hz k2 k3 k4 k8 k9 ks kx hb0 hall h0 hbig hit hfr n89 n28 n29 n38 n39 n48 n49 e8 e9 e4 l8 l9 hrow hY hK hD
    go_wp2_with (first | (go_at_call 96; refine (L_fraction.calls k _ _ q1 q2 W HFR.out).mono ?_; rintro e w5 ⟨rfl, hb⟩; have g4 := blk_below H4.out hb; have z0 : w5.cell? ⟨gb185, 0, none⟩ = some (.int .i64 0) := (blk_cell g4 0).trans rfl; have z1 : w5.cell? ⟨gb185, 1, none⟩ = some (.int .i64 0) := (blk_cell g4 1).trans rfl; have f0 := blk_frozen g4 0; have f1 := blk_frozen g4 1; have HB5 := m0 hb; have G4 := m0 g4; clear hb g4))
    have hK5 : w5.heap[D]? = some (.deferred (some [])) := blk_below HK.out HB5.out
    have hD := HD.out
    have l4 := L4.out
    have e4 := E4.out
    have hK6 : ((w5.setCell ⟨gb185, 0, none⟩ (.int .i64 q1)).setCell ⟨gb185, 1, none⟩ (.int .i64 q2)).heap[D]? = some (.deferred (some [])) := blk_ne_set (blk_ne_set hK5 (by omega)) (by omega)
    refine ⟨by simp, .inl ⟨_, _, rfl, run_takeDeferred hK6, ?_⟩⟩
    have b1 : Below w.heap.size w ((w5.setCell ⟨gb185, 0, none⟩ (.int .i64 q1)).setCell ⟨gb185, 1, none⟩ (.int .i64 q2)) :=
     ((HBB.out.trans (HB5.out.mono HBB.out.size)).setCell (p := ⟨gb185, 0, none⟩) e4 _).setCell (p := ⟨gb185, 1, none⟩) e4 _
    exact ⟨_, results_ct rfl _ _ gb185 26 #[.int .i64 q1, .int .i64 q2] (0, 0) _ rfl ((World.putObj_heap_other (show gb185 ≠ D by omega)).trans (blk_put (cs := #[.int .i64 q1, .int .i64 0]) (blk_put (cs := #[.int .i64 0, .int .i64 0]) G4.out 0 _ rfl) 1 _ rfl)) Tryd.underlying26 rfl (by kernel_rfl), rfl, b1.trans (belowK_b (w := w) (Nat.le_refl _) _ D _ _ (Nat.le_trans HB0.out.size hD) hK6 rfl rfl)⟩
  ·rw [if_neg c50] at H
   have c50b0 := beq_eq_false_iff_ne.mpr c50
   have c50b1 := bne_iff_ne.mpr c50
   simp only [Option.some.injEq, Prod.mk.injEq] at H
   obtain ⟨rfl, rfl, rfl⟩ := H
   refine (callsIn_wide (n := 9)).1 (callsIn_of_wp_marks Tryd.func20 rfl trivial (wpIn_mono (Q := QM 9 Tryd.prog Tryd.f20 _) (wpIn_wide.2 ?_) (fun _ _ _ h => QM.le h)) rfl)
   simp only [Tryd.ntmps20, List.size_toArray, List.length_cons, List.length_nil, Nat.reduceAdd, Nat.reduceSub, Array.replicate_succ, Array.replicate_zero, List.push_toArray, List.append_toArray, List.nil_append, List.cons_append]
   try go_wp2_with (first | ((with_reducible refine gate_dst (N := 2) rfl ?_); refine be 2 28 #[.slice A0_0 l0_0.length c0_0, .slice A0_1 l0_1.length c0_1, .int .i64 a0_2, .int .i64 a0_3] ?_; intro gb183 hg w75 hbox hb; have BK183 := m0 hbox; have GE183 := gw w hg; replace HB := sb HB hb; clear hb hbox hg) | ((with_reducible refine gate_dst (N := 3) rfl ?_); refine be 3 3 #[.int .i64 a1] ?_; intro gb184 hg w76 hbox hb; have BK184 := m0 hbox; have GE184 := gw w hg; replace HB := sb HB hb; have NB183_184 := nl BK183 hg; have NB184_183 := ng (nl BK183 hg); replace BK183 := bb BK183 hb; clear hb hbox hg) | ((with_reducible refine gate_dst (N := 4) rfl ?_); refine be 4 26 #[.int .i64 0, .int .i64 0] ?_; intro gb185 hg w77 hbox hb; have BK185 := m0 hbox; have GE185 := gw w hg; replace HB := sb HB hb; have NB183_185 := nl BK183 hg; have NB185_183 := ng (nl BK183 hg); replace BK183 := bb BK183 hb; have NB184_185 := nl BK184 hg; have NB185_184 := ng (nl BK184 hg); replace BK184 := bb BK184 hb; clear hb hbox hg; have hnb78 := NB184_183.out; have hnc78 := NB183_184.out; have hnb79 := NB184_185.out; have hnc79 := NB185_184.out; obtain ⟨_, _⟩ := b1 BK184))
   replace BK183 := bd BK183; replace BK184 := bd BK184; replace BK185 := bd BK185; replace HB := sd HB
   refine start_ (n := 9) (S := fun w' => w'.cell? ⟨gb183, 0, none⟩ = some (.slice A0_0 l0_0.length c0_0) ∧ w'.cell? ⟨gb183, 1, none⟩ = some (.slice A0_1 l0_1.length c0_1) ∧ w'.cell? ⟨gb183, 2, none⟩ = some (.int .i64 a0_2) ∧ w'.cell? ⟨gb183, 3, none⟩ = some (.int .i64 a0_3) ∧ w'.cell? ⟨gb184, 0, none⟩ = some (.int .i64 a1)) (ds := []) #[false, false, false, false, false, false, false, false, false] (by kernel_rfl) rfl rfl cz (fun hH => ?_); refine with_tabW L_BiasOf.tab2 L_BiasOf.bits2 (fun HT_ HW_ => ?_)
   generalize w77.drew = w81 at BK183 BK184 BK185 HB hH ⊢
   refine pZ 4 (some 22) #[false, false, false, false, true, false, false, false, false] HT_ ?_
   refine takeZ 0 (some 18) #[true, false, false, false, true, false, false, false, false] (take_ofW HT_.out HW_.out (by kernel_rfl)) hH ?_
   refine takeZ 2 (some 20) #[true, false, true, false, true, false, false, false, false] (take_ofW HT_.out HW_.out (by kernel_rfl)) hH ?_
   refine oneZ 1 (some 19) #[true, true, true, false, true, false, false, false, false] (one_of HT_.out (by kernel_rfl)) fun K hK => ?_
   refine gz Tryd.func53 #[.agg #[.slice A0_0 l0_0.length c0_0, .slice A0_1 l0_1.length c0_1, .int .i64 a0_2, .int .i64 a0_3]] ?_
   with_reducible refine (L_CheckCase.calls k _ _ l0_0 _ _ l0_1 a0_2 a0_3 t195 _ ?side1 ?side2 ?side3 ?side4 A46.out).mono ?_
   (case side1 => exact cb HR0_0 HB)
   (case side2 => exact HC0_0.out)
   (case side3 => exact cb HR0_1 HB)
   (case side4 => exact HC0_1.out)
   rintro e w82 ⟨rfl, hb⟩
   refine ⟨_, rfl, ?_⟩
   replace BK183 := bb BK183 hb; replace BK184 := bb BK184 hb; replace BK185 := bb BK185 hb; replace HB := sb HB hb
   (try clear hb)
   refine hK.out _ _ cz (fun hH => ?_)
   clear hK K
   refine norm_ (a' := ?_) ?_ ?_
   rotate_left
   ·show Act.put _ (some 19) _ = _
    exact pz
   refine oneZ 3 (some 21) #[true, true, true, true, true, false, false, false, false] (one_of HT_.out (by kernel_rfl)) fun K hK => ?_
   refine gz Tryd.func92 #[.int .i64 a1] ?_
   with_reducible refine (L_kindErr.calls a1 t196 _ A47.out).mono ?_
   rintro e w' ⟨rfl, ⟨nd, rfl⟩⟩
   refine ⟨_, rfl, ?_⟩
   refine hK.out _ _ cz (fun hH => ?_)
   clear hK K
   refine norm_ (a' := ?_) ?_ ?_
   rotate_left
   ·show Act.put _ (some 21) _ = _
    exact pz
   refine oneZ 5 (some 23) #[true, true, true, true, true, true, false, false, false] (one_of HT_.out (by kernel_rfl)) fun K hK => ?_
   refine gz Tryd.func93 #[.bool (a1 == 3), .int .i64 14] ?_
   with_reducible refine (L_unless.calls (a1 == 3) 14 t197 _ A48.out).mono ?_
   rintro e w' ⟨rfl, ⟨nd, rfl⟩⟩
   refine ⟨_, rfl, ?_⟩
   refine hK.out _ _ cz (fun hH => ?_)
   clear hK K
   refine norm_ (a' := ?_) ?_ ?_
   rotate_left
   ·show Act.put _ (some 23) _ = _
    exact pz
   refine oneZ 6 (some 24) #[true, true, true, true, true, true, true, false, false] (one_of HT_.out (by kernel_rfl)) fun K hK => ?_
   refine Kd.R_lit_step (Kd.int .i64) _ 31 ?hg (N := 24) ?hd (xs := ([t195, t196, t197] : List Int)) (inner := [.int .i64 t195, .int .i64 t196, .int .i64 t197]) (ok := fun _ => True) (okp := fun _ => True) ?hr ?hp (fun _ hk => hk) trivial (Below.refl _ _) (Nat.le_refl _) (by simp) ?_; (case hd => rfl); (case hg => rfl); (case hr => first | (go_simp; done) | (go_simp; rfl)); (case hp => exact (Reps.one (show Kd.M (Kd.int .i64) _ _ _ t195 [.int .i64 t195] from rfl) (Reps.one (show Kd.M (Kd.int .i64) _ _ _ t196 [.int .i64 t196] from rfl) (Reps.one (show Kd.M (Kd.int .i64) _ _ _ t197 [.int .i64 t197] from rfl) (Reps.none _ _)))))
   intro v199 w83 ho84 hb hg_ hnew_
   clear hg_ hnew_
   (first | rw [← Ny198.out] at ho84 | (simp only [Int.reduceToNat] at ho84; rw [← Ny198.out] at ho84))
   have HO200 := m0 (Kd.R_lower ho84 (below_size bz)); replace BK183 := bb BK183 hb; replace BK184 := bb BK184 hb; replace BK185 := bb BK185 hb; replace HB := sb HB hb
   clear hb ho84
   obtain ⟨Ao85, co85, eo85⟩ := Kd.R_slice HO200.out
   subst eo85
   refine hK.out _ _ cz (fun hH => ?_)
   clear hK K
   refine norm_ (a' := ?_) ?_ ?_
   rotate_left
   ·show Act.put _ (some 24) _ = _
    exact pz
   refine oneZ 7 (some 25) #[true, true, true, true, true, true, true, true, false] (one_of HT_.out (by kernel_rfl)) fun K hK => ?_
   refine gz Tryd.func91 #[.slice Ao85 y198.length co85] ?_
   with_reducible refine (L_first.calls k _ _ y198 t201 _ ?side1 ?side2 A49.out).mono ?_
   (case side1 => exact bc (Kd.R_reads' HO200.out).2.2)
   (case side2 => exact (Kd.R_reads' HO200.out).2.1)
   rintro e w' ⟨rfl, ⟨nd, rfl⟩⟩
   refine ⟨_, rfl, ?_⟩
   refine hK.out _ _ cz (fun hH => ?_)
   clear hK K
   refine norm_ (a' := ?_) ?_ ?_
   rotate_left
   ·show Act.put _ (some 25) _ = _
    exact pz
   refine pZ 8 (some 7) #[true, true, true, true, true, true, true, true, true] HT_ ?_
   refine done_ (done_of HT_.out (by kernel_rfl)) ?_
   have hnb86 := NB185_183.out
   have hnc86 := NB183_185.out
   obtain ⟨_, _, _, _⟩ := b2 BK185
   try go_wp2
   refine bodyPostM_ret (results_ct rfl _ _ gb185 26 #[.int .i64 0, .int .i64 0] (0, 0) _ rfl (bq BK185.out) Tryd.underlying26 rfl (by kernel_rfl)) rfl ?_
   exact ez
end
section
def L_less.f (a0_0 : Int) (a0_1 : Int) (a1_0 : Int) (a1_1 : Int) : Option (Bool) := some (decide ((wrap64 (a0_0 * a1_1)) < (wrap64 (a1_0 * a0_1))))
theorem L_less.calls (a0_0 : Int) (a0_1 : Int) (a1_0 : Int) (a1_1 : Int) (r : Bool) (w : World) (h : L_less.f a0_0 a0_1 a1_0 a1_1 = some r) :
  Calls Tryd.prog 126 #[.agg #[.int .i64 a0_0, .int .i64 a0_1], .agg #[.int .i64 a1_0, .int .i64 a1_1]] w fun e w' => e = .returned (.bool r) ∧ Below w.heap.size w w' := by
 have hu26 := Tryd.underlying26
 have HB := m0 (Below.refl w.heap.size w)
 have H : (some (decide ((wrap64 (a0_0 * a1_1)) < (wrap64 (a1_0 * a0_1))))) = some r := h
 clear h
 obtain rfl := Option.some.inj H
 go_enter Tryd.func126, Tryd.ntmps126
 go_wp2_with (first | ((with_reducible refine gate_dst (N := 2) rfl ?_); refine be 2 26 #[.int .i64 a0_0, .int .i64 a0_1] ?_; intro gb204 hg w3 hbox hb; have BK204 := m0 hbox; have GE204 := gw w hg; replace HB := sb HB hb; clear hb hbox hg) | ((with_reducible refine gate_dst (N := 3) rfl ?_); refine be 3 26 #[.int .i64 a1_0, .int .i64 a1_1] ?_; intro gb205 hg w4 hbox hb; have BK205 := m0 hbox; have GE205 := gw w hg; replace HB := sb HB hb; have NB204_205 := nl BK204 hg; have NB205_204 := ng (nl BK204 hg); replace BK204 := bb BK204 hb; clear hb hbox hg; have hnb5 := NB204_205.out; have hnc5 := NB205_204.out; obtain ⟨_, _, _, _⟩ := b2 BK204; obtain ⟨_, _, _, _⟩ := b2 BK205))
 go_ret
 exact ez
end
section
def L_miss.f (k : Nat) (l0 : List Int) (a1 : Int) (a2_0 : Int) (a2_1 : Int) : Option (Int × Int) := (Sp_estimate.f k l0 a1).bind fun bt208 => ((L_fraction.f k (mx (wrap64 ((wrap64 (bt208.1 * a2_1)) - (wrap64 (a2_0 * bt208.2)))) (wrap64 (-(wrap64 ((wrap64 (bt208.1 * a2_1)) - (wrap64 (a2_0 * bt208.2))))))) (wrap64 (bt208.2 * a2_1))).bind fun bt211 => (some (bt211.1, bt211.2)))
theorem L_miss.mono : ∀ a0 a1 a2 a3 k, LeO (L_miss.f k a0 a1 a2 a3) (L_miss.f (k + 1) a0 a1 a2 a3) := by
 intro a0 a1 a2 a3 k
 unfold L_miss.f
 repeat' with_reducible first
  | exact L_fraction.mono ..
  | exact Sp_estimate.mono ..
  | exact LeO.refl ..
  | exact LeO.none ..
  | refine LeO.ite ?_ ?_
  | refine LeO.bind ?_ (fun _ => ?_)
theorem L_miss.calls (k : Nat) (A0 : Option Addr) (c0 : Nat) (l0 : List Int) (a1 : Int) (a2_0 : Int) (a2_1 : Int) (r1 : Int) (r2 : Int) (w : World) (hr0 : Kd.C (Kd.int .i64) w A0 l0.length l0) (hc0 : l0.length ≤ c0) (hG : EstG w) (h : L_miss.f k l0 a1 a2_0 a2_1 = some (r1, r2)) :
  Calls Tryd.prog 128 #[.slice A0 l0.length c0, .int .i64 a1, .agg #[.int .i64 a2_0, .int .i64 a2_1]] w fun e w' => e = .returned (.agg #[.int .i64 r1, .int .i64 r2]) ∧ Below w.heap.size w w' := by
 have hu26 := Tryd.underlying26
 have HG := m0 hG
 clear hG
 have HR0 := m0 hr0
 have HC0 := m0 hc0
 clear hr0 hc0
 have HB := m0 (Below.refl w.heap.size w)
 have H : ((Sp_estimate.f k l0 a1).bind fun bt208 => ((L_fraction.f k (mx (wrap64 ((wrap64 (bt208.1 * a2_1)) - (wrap64 (a2_0 * bt208.2)))) (wrap64 (-(wrap64 ((wrap64 (bt208.1 * a2_1)) - (wrap64 (a2_0 * bt208.2))))))) (wrap64 (bt208.2 * a2_1))).bind fun bt211 => (some (bt211.1, bt211.2)))) = some (r1, r2) := h
 clear h
 replace H := ob H
 obtain ⟨⟨t208, t209⟩, A4, H⟩ := H
 (try dsimp only at H)
 replace A4 := m0 A4
 obtain ⟨ji5, hji5⟩ : ∃ j_ : Int, (mx (wrap64 ((wrap64 (t208 * a2_1)) - (wrap64 (a2_0 * t209)))) (wrap64 (-(wrap64 ((wrap64 (t208 * a2_1)) - (wrap64 (a2_0 * t209))))))) = j_ := ⟨_, rfl⟩
 replace H : ((L_fraction.f k (ji5) (wrap64 (t209 * a2_1))).bind fun bt211 => (some (bt211.1, bt211.2))) = some (r1, r2) := by first | (rw [hji5] at H; exact H) | (simp only [hji5] at H ⊢; exact H)
 (try rw [hji5] at A4)
 have hji5_ : (if (wrap64 ((wrap64 (t208 * a2_1)) - (wrap64 (a2_0 * t209)))) < (wrap64 (-(wrap64 ((wrap64 (t208 * a2_1)) - (wrap64 (a2_0 * t209)))))) then (wrap64 (-(wrap64 ((wrap64 (t208 * a2_1)) - (wrap64 (a2_0 * t209)))))) else (wrap64 ((wrap64 (t208 * a2_1)) - (wrap64 (a2_0 * t209))))) = ji5 := hji5
 replace H := ob H
 obtain ⟨⟨t211, t212⟩, A6, H⟩ := H
 (try dsimp only at H)
 replace A6 := m0 A6
 simp only [Option.some.injEq, Prod.mk.injEq] at H
 obtain ⟨rfl, rfl⟩ := H
 go_enter Tryd.func128, Tryd.ntmps128
 go_wp2_with (first | ((with_reducible refine gate_dst (N := 5) rfl ?_); refine be 5 26 #[.int .i64 a2_0, .int .i64 a2_1] ?_; intro gb206 hg w7 hbox hb; have BK206 := m0 hbox; have GE206 := gw w hg; replace HB := sb HB hb; clear hb hbox hg) | ((with_reducible refine gate_dst (N := 6) rfl ?_); refine be 6 26 #[.int .i64 0, .int .i64 0] ?_; intro gb207 hg w8 hbox hb; have BK207 := m0 hbox; have GE207 := gw w hg; replace HB := sb HB hb; have NB206_207 := nl BK206 hg; have NB207_206 := ng (nl BK206 hg); replace BK206 := bb BK206 hb; clear hb hbox hg) | ((with_reducible refine gate_callee (f := 95) rfl ?_); refine gl (some 11) Tryd.func95 #[.slice A0 l0.length c0, .int .i64 a1] ?_; (with_reducible refine (Sp_estimate.calls k _ _ l0 a1 t208 t209 _ ?side1 ?side2 ?side3 A4.out).mono ?_); (case side1 => exact cb HR0 HB); (case side2 => exact HC0.out); (case side3 => exact EstG.below HG.out bz); rintro e w9 ⟨rfl, hb⟩; refine ⟨_, rfl, ?_⟩; replace BK206 := bb BK206 hb; replace BK207 := bb BK207 hb; replace HB := sb HB hb; (try clear hb)) | ((with_reducible refine gate_dst (N := 7) rfl ?_); refine be 7 26 #[.int .i64 0, .int .i64 0] ?_; intro gb210 hg w10 hbox hb; have BK210 := m0 hbox; have GE210 := gw w hg; replace HB := sb HB hb; have NB206_210 := nl BK206 hg; have NB210_206 := ng (nl BK206 hg); replace BK206 := bb BK206 hb; have NB207_210 := nl BK207 hg; have NB210_207 := ng (nl BK207 hg); replace BK207 := bb BK207 hb; clear hb hbox hg; have hnb11 := NB210_206.out; have hnc11 := NB206_210.out; have hnb12 := NB210_207.out; have hnc12 := NB207_210.out; obtain ⟨_, _, _, _⟩ := b2 BK210; have hnb14 := NB206_207.out; have hnc14 := NB207_206.out; obtain ⟨_, _, _, _⟩ := b2 BK206) | ((with_reducible refine gate_callee (f := 96) rfl ?_); refine goesL_ (some 32) rfl rfl Tryd.func96 (by kernel_rfl) rfl #[.int .i64 ji5, .int .i64 (wrap64 (t209 * a2_1))] rfl (by (try simp only [List.map_toArray, List.map_cons, List.map_nil]); first | done | (simp only [hji5]; rfl) | rfl | (simp only [List.length_drop, List.length_take]; rfl)) ?_; (with_reducible refine (L_fraction.calls k ji5 (wrap64 (t209 * a2_1)) t211 t212 _ A6.out).mono ?_); rintro e w16 ⟨rfl, hb⟩; refine ⟨_, rfl, ?_⟩; replace BK206 := m0 (blk_below (g := gb206) (o := .cells #[.int .i64 a2_0, .int .i64 a2_1] 26 (0, 0)) (bq BK206.out) hb); replace BK207 := m0 (blk_below (g := gb207) (o := .cells #[.int .i64 0, .int .i64 0] 26 (0, 0)) (bq BK207.out) hb); replace BK210 := m0 (blk_below (g := gb210) (o := .cells #[.int .i64 t208, .int .i64 t209] 26 (0, 0)) (bq BK210.out) hb); replace HB := sb HB hb; (try clear hb); obtain ⟨_, _, _, _⟩ := b2 BK207))
 refine bodyPost_ret (results_cell_row rfl _ _ gb207 26 #[.int .i64 t211, .int .i64 t212] (0, 0) _ rfl (bq BK207.out) Tryd.underlying26 rfl (by kernel_rfl)) rfl ?_
 exact ⟨by first | rfl | (simp [errW_none, errW_some] <;> rfl) | (simp only [← hji5]; first | rfl | (simp [errW_none, errW_some] <;> rfl)) | (simp [*, errW_none, errW_some] <;> rfl), by repeat (first | (with_reducible first | exact HB.out | apply below_alloc | apply pw_below_drewN | apply below_drew1 | refine below_set ?_ GE206.out | refine below_set ?_ GE207.out | refine below_set ?_ GE210.out) | exact HB.out)⟩
end
section
def L_worst.step (k : Nat) (ls lv : List Int) (tn td kind : Int) (j : Nat) (s : Int × Int × Int) : Option (Int × Int × Int) :=
 (L_noisy.f k ls lv j).bind fun row => (L_miss.f k row kind tn td).bind fun m => (L_less.f s.1 s.2.1 m.1 m.2).bind fun b => some (if b = true then (m.1, m.2, (j : Int)) else s)
def L_worst.f (k : Nat) (l0_0 l0_1 : List Int) (a0_2 a0_3 a1 : Int) : Option (Int × Int × Int) :=
 (L_cases.f k l0_1 l0_0.length).bind fun c => if 0 ≤ c.1 then if c.1 ≤ 1000000 then iterN (L_worst.step k l0_0 l0_1 a0_2 a0_3 a1) c.1.toNat (-1, 1, 0) else none else none
theorem L_worst.mono : ∀ a0 a1 a2 a3 a4 k, LeO (L_worst.f k a0 a1 a2 a3 a4) (L_worst.f (k + 1) a0 a1 a2 a3 a4) := by
 intro a0 a1 a2 a3 a4 k
 unfold L_worst.f
 refine LeO.bind (L_cases.mono _ _ _) (fun c => ?_)
 refine LeO.ite (LeO.ite (iterN_mono (fun j s => ?_) _ _) (LeO.none _)) (LeO.none _)
 unfold L_worst.step
 exact LeO.bind (L_noisy.mono _ _ _ _) (fun row => LeO.bind (L_miss.mono _ _ _ _ _) (fun m => LeO.refl _))
attribute [local go_sem] Oper.semAt_some
theorem L_worst.calls (k : Nat) (A0_0 : Option Addr) (c0_0 : Nat) (l0_0 : List Int) (A0_1 : Option Addr) (c0_1 : Nat) (l0_1 : List Int) (a0_2 a0_3 a1 : Int) (r1 r2 r3 : Int) (w : World) (hr0_0 : Kd.C (Kd.int .i64) w A0_0 l0_0.length l0_0) (hc0_0 : l0_0.length ≤ c0_0) (hr0_1 : Kd.C (Kd.int .i64) w A0_1 l0_1.length l0_1) (hc0_1 : l0_1.length ≤ c0_1) (hG : EstG w) (h : L_worst.f k l0_0 l0_1 a0_2 a0_3 a1 = some (r1, r2, r3)) :
  Calls Tryd.prog 97 #[.agg #[.slice A0_0 l0_0.length c0_0, .slice A0_1 l0_1.length c0_1, .int .i64 a0_2, .int .i64 a0_3], .int .i64 a1] w fun e w' => e = .returned (.agg #[.int .i64 r1, .int .i64 r2, .int .i64 r3]) ∧ Below w.heap.size w w' := by
 unfold L_worst.f at h
 obtain ⟨⟨all, few⟩, hall, h⟩ := Option.bind_eq_some_iff.mp h
 by_cases h0 : 0 ≤ all
 case neg => rw [if_neg h0] at h; exact absurd h (by simp)
 rw [if_pos h0] at h
 by_cases hbig : all ≤ 1000000
 case neg => rw [if_neg hbig] at h; exact absurd h (by simp)
 rw [if_pos hbig] at h
 have hit : iterN (L_worst.step k l0_0 l0_1 a0_2 a0_3 a1) all.toNat (-1, 1, 0) = some (r1, r2, r3) := h
 clear h
 have hu26 := Tryd.underlying26
 have hu28 := Tryd.underlying28
 have hu36 := Tryd.underlying36
 refine (callsIn_wide (n := 9)).1 ?_
 refine callsIn_of_wp_marks Tryd.func97 rfl trivial ?_ rfl
 simp only [Tryd.ntmps97, List.size_toArray, List.length_cons, List.length_nil, Nat.reduceAdd, Nat.reduceSub, Array.replicate_succ, Array.replicate_zero, List.push_toArray, List.append_toArray, List.nil_append, List.cons_append]
 gi_wp2_with (first | (refine ⟨trivial, ?_⟩; gi_at_call 94; refine (callsIn_wide.2 (L_each.calls_own _ _ _ _ _ _ _)).mono ?_; rintro e w' ⟨rfl, rfl⟩))
 obtain ⟨W0, hW0⟩ : ∃ W0, ((((((w.alloc (.cells #[.slice A0_0 l0_0.length c0_0, .slice A0_1 l0_1.length c0_1, .int .i64 a0_2, .int .i64 a0_3] 28)).alloc (.cells #[.int .i64 a1] 3)).alloc (.cells #[.int .i64 0, .int .i64 0, .int .i64 0] 36)).alloc (.cells #[.int .i64 (-1), .int .i64 1, .int .i64 0] 36)).alloc (.cells #[.slice A0_0 l0_0.length c0_0] 22)).alloc (.cells #[.slice A0_1 l0_1.length c0_1] 24)) = W0 := ⟨_, rfl⟩
 have hz : W0.heap.size = w.heap.size + 6 := by rw [← hW0]; simp
 have hb0 : Below w.heap.size w W0 := by rw [← hW0]; repeat (first | exact Below.refl _ _ | apply below_alloc)
 have k0 : W0.heap[w.heap.size]? = some (.cells #[.slice A0_0 l0_0.length c0_0, .slice A0_1 l0_1.length c0_1, .int .i64 a0_2, .int .i64 a0_3] 28 (0, 0)) := by
  rw [← hW0]; iterate 5 apply blk_alloc
  have := blk_new w (.cells #[.slice A0_0 l0_0.length c0_0, .slice A0_1 l0_1.length c0_1, .int .i64 a0_2, .int .i64 a0_3] 28 (0, 0)); simpa using this
 have k1 : W0.heap[w.heap.size + 1]? = some (.cells #[.int .i64 a1] 3 (0, 0)) := by
  rw [← hW0]; iterate 4 apply blk_alloc
  have := blk_new (w.alloc (.cells #[.slice A0_0 l0_0.length c0_0, .slice A0_1 l0_1.length c0_1, .int .i64 a0_2, .int .i64 a0_3] 28)) (.cells #[.int .i64 a1] 3 (0, 0)); simpa using this
 have k2 : W0.heap[w.heap.size + 1 + 1]? = some (.cells #[.int .i64 0, .int .i64 0, .int .i64 0] 36 (0, 0)) := by
  rw [← hW0]; iterate 3 apply blk_alloc
  have := blk_new ((w.alloc (.cells #[.slice A0_0 l0_0.length c0_0, .slice A0_1 l0_1.length c0_1, .int .i64 a0_2, .int .i64 a0_3] 28)).alloc (.cells #[.int .i64 a1] 3)) (.cells #[.int .i64 0, .int .i64 0, .int .i64 0] 36 (0, 0)); simpa using this
 have k3 : W0.heap[w.heap.size + 1 + 1 + 1]? = some (.cells #[.int .i64 (-1), .int .i64 1, .int .i64 0] 36 (0, 0)) := by
  rw [← hW0]; iterate 2 apply blk_alloc
  have := blk_new (((w.alloc (.cells #[.slice A0_0 l0_0.length c0_0, .slice A0_1 l0_1.length c0_1, .int .i64 a0_2, .int .i64 a0_3] 28)).alloc (.cells #[.int .i64 a1] 3)).alloc (.cells #[.int .i64 0, .int .i64 0, .int .i64 0] 36)) (.cells #[.int .i64 (-1), .int .i64 1, .int .i64 0] 36 (0, 0)); simpa using this
 have k4 : W0.heap[w.heap.size + 1 + 1 + 1 + 1]? = some (.cells #[.slice A0_0 l0_0.length c0_0] 22 (0, 0)) := by
  rw [← hW0]; iterate 1 apply blk_alloc
  have := blk_new ((((w.alloc (.cells #[.slice A0_0 l0_0.length c0_0, .slice A0_1 l0_1.length c0_1, .int .i64 a0_2, .int .i64 a0_3] 28)).alloc (.cells #[.int .i64 a1] 3)).alloc (.cells #[.int .i64 0, .int .i64 0, .int .i64 0] 36)).alloc (.cells #[.int .i64 (-1), .int .i64 1, .int .i64 0] 36)) (.cells #[.slice A0_0 l0_0.length c0_0] 22 (0, 0)); simpa using this
 have k5 : W0.heap[w.heap.size + 1 + 1 + 1 + 1 + 1]? = some (.cells #[.slice A0_1 l0_1.length c0_1] 24 (0, 0)) := by
  rw [← hW0]; iterate 0 apply blk_alloc
  have := blk_new (((((w.alloc (.cells #[.slice A0_0 l0_0.length c0_0, .slice A0_1 l0_1.length c0_1, .int .i64 a0_2, .int .i64 a0_3] 28)).alloc (.cells #[.int .i64 a1] 3)).alloc (.cells #[.int .i64 0, .int .i64 0, .int .i64 0] 36)).alloc (.cells #[.int .i64 (-1), .int .i64 1, .int .i64 0] 36)).alloc (.cells #[.slice A0_0 l0_0.length c0_0] 22)) (.cells #[.slice A0_1 l0_1.length c0_1] 24 (0, 0)); simpa using this
 rw [hW0]
 clear hW0
 have hstep := fun (j : Nat) (hj : (j : Int) < all) => iterN_pre hit (show j ≤ all.toNat by omega)
 have hrow : ∀ j : Nat, (j : Int) < all → L_noisy.f k l0_0 l0_1 j = some ((L_noisy.f k l0_0 l0_1 j).getD []) := fun j hj => by
  obtain ⟨q, hq⟩ := hstep j hj
  obtain ⟨q', hq', _⟩ := iterN_at hit (show j < all.toNat by omega) hq
  obtain ⟨row, hr, _⟩ := Option.bind_eq_some_iff.mp hq'
  rw [hr]; rfl
 have hY := L_each.yields 8 k (by decide) A0_0 A0_1 c0_0 c0_1 l0_0 l0_1 all few (fun j => (L_noisy.f k l0_0 l0_1 j).getD []) w (w.heap.size + 1 + 1 + 1 + 1 + 1) (w.heap.size + 1 + 1 + 1 + 1) W0 hb0 ((blk_cell k5 0).trans rfl) ((blk_cell k4 0).trans rfl) hr0_0 hc0_0 hr0_1 hc0_1 hall h0 hbig hrow
 have HIT := m0 hit
 have HY := m0 hY
 have HG := m0 hG
 clear hit hstep hrow hY hG
 refine wpIn_rangeN rfl (by decide) (gf := 131) (lb := #[.pointer (some ⟨w.heap.size + 1 + 1 + 1 + 1 + 1, 0, none⟩), .pointer (some ⟨w.heap.size + 1 + 1 + 1 + 1, 0, none⟩)]) rfl trivial (enters_of Tryd.func131 (by kernel_rfl) rfl) HY.out
  (L_each.Rd_putObj) (fun h k => h.trans k) (fun W l o o' hl h hc hw => L_each.Kp_putObj (w := W0) (v1 := undef) (v2 := undef) (by omega) W l o o' hl h hc hw (by omega) (by omega)) (Below.refl _ _) (fun _ _ => rfl)
  (fun j W => (∃ s : Int × Int × Int, iterN (L_worst.step k l0_0 l0_1 a0_2 a0_3 a1) j (-1, 1, 0) = some s ∧ W.heap[w.heap.size + 1 + 1 + 1]? = some (.cells #[.int .i64 s.1, .int .i64 s.2.1, .int .i64 s.2.2] 36 (0, 0)) ∧ W.heap[w.heap.size]? = some (.cells #[.slice A0_0 l0_0.length c0_0, .slice A0_1 l0_1.length c0_1, .int .i64 a0_2, .int .i64 a0_3] 28 (0, 0)) ∧ W.heap[w.heap.size + 1]? = some (.cells #[.int .i64 a1] 3 (0, 0)) ∧ W.heap[w.heap.size + 1 + 1]? = some (.cells #[.int .i64 0, .int .i64 0, .int .i64 0] 36 (0, 0)) ∧ W0.heap.size ≤ W.heap.size) ∧ Below w.heap.size w W)
  (fun _ _ _ => False)
  (OwnFrom.and (fun j A B row hs hg hr => by
   obtain ⟨s, h1, h2, h3, h4, h5, h6⟩ := hs
   exact ⟨s, h1, blk_own h2 hg hr, blk_own h3 hg hr, blk_own h4 hg hr, blk_own h5 hg hr, Nat.le_trans h6 hg.size⟩) (ownFrom_below (Nat.le_refl _) (by omega)))
  (fun _ _ _ _ _ hs _ _ => hs)
  ⟨⟨(-1, 1, 0), rfl, k3, k0, k1, k2, Nat.le_refl _⟩, hb0⟩
  (fun j x => { tmps := #[.agg #[.slice A0_0 l0_0.length c0_0, .slice A0_1 l0_1.length c0_1, .int .i64 a0_2, .int .i64 a0_3], .int .i64 a1, .pointer (some ⟨w.heap.size, 0, none⟩), .pointer (some ⟨w.heap.size + 1, 0, none⟩), .pointer (some ⟨w.heap.size + 1 + 1, 0, none⟩), .pointer (some ⟨w.heap.size + 1 + 1 + 1, 0, none⟩), .int .i64 (j : Int), x, undef, .agg #[.int .i64 (-1), .int .i64 1], .agg #[.int .i64 (-1), .int .i64 1, .int .i64 0], .pointer (some ⟨w.heap.size, 0, none⟩), .slice A0_0 l0_0.length c0_0, .pointer (some ⟨w.heap.size, 1, none⟩), .agg #[.slice A0_1 l0_1.length c0_1], .func (.func 131) #[] #[.pointer (some ⟨w.heap.size + 1 + 1 + 1 + 1 + 1, 0, none⟩), .pointer (some ⟨w.heap.size + 1 + 1 + 1 + 1, 0, none⟩)], .int .i64 (j : Int), x, undef, undef, undef, undef, undef, undef, undef, undef, undef, undef, undef, undef, undef], defers := [] }) ?assign ?body ?done ?stop
 case assign =>
  intro l j x W K hK
  gi_wp2
  exact hK
 case stop =>
  rintro D c j W _ _ h _
  exact h.elim
 case body =>
  rintro l j x W ⟨⟨⟨s1, s2, s3⟩, hs, h3, hp0, h1, h2, h6⟩, hB⟩ ⟨A, c, hx, hc, hC, hm⟩ hj
  obtain ⟨q', hq', hq1⟩ := iterN_at HIT.out hj hs
  obtain ⟨row, hr, hq'⟩ := Option.bind_eq_some_iff.mp hq'
  obtain ⟨⟨m1, m2⟩, hmx, hq'⟩ := Option.bind_eq_some_iff.mp hq'
  obtain ⟨b, hls, hq'⟩ := Option.bind_eq_some_iff.mp hq'
  have er : (L_noisy.f k l0_0 l0_1 (j : Int)).getD [] = row := by rw [hr]; rfl
  simp only [er] at hx hc hC
  subst hx
  obtain rfl := Option.some.inj hq'
  replace hls : L_less.f s1 s2 m1 m2 = some b := hls
  have H3 := m0 h3
  have H0 := m0 hp0
  have H1 := m0 h1
  have H2 := m0 h2
  have HBB := m0 hB
  have H6 := m0 h6
  have HC := m0 hC
  have HCC := m0 hc
  have HM := m0 hm
  have HMX := m0 hmx
  have HLS := m0 hls
  have HQ1 := m0 hq1
  have HZ := m0 hz
  have HEST := m0 (EstG.below HG.out hB)
  have c1 : W.cell? ⟨w.heap.size + 1, 0, none⟩ = some (.int .i64 a1) := (blk_cell h1 0).trans rfl
  have c2 : W.cell? ⟨w.heap.size, 2, none⟩ = some (.int .i64 a0_2) := (blk_cell hp0 2).trans rfl
  have c3 : W.cell? ⟨w.heap.size, 3, none⟩ = some (.int .i64 a0_3) := (blk_cell hp0 3).trans rfl
  clear h1 h2 h3 hp0 hB h6 hC hc hm hmx hls hq1 hq' hs hr er hz k0 k1 k2 k3 k4 k5 hb0 hall HIT HY hr0_0 hr0_1 hc0_0 hc0_1 hj HG
  generalize hLEFT : leftN _ _ _ _ _ = LEFT
  have base : ∀ w7 : World, Below W.heap.size W w7 → w7.heap[w.heap.size]? = some (.cells #[.slice A0_0 l0_0.length c0_0, .slice A0_1 l0_1.length c0_1, .int .i64 a0_2, .int .i64 a0_3] 28 (0, 0)) ∧ w7.heap[w.heap.size + 1]? = some (.cells #[.int .i64 a1] 3 (0, 0)) ∧ w7.heap[w.heap.size + 1 + 1]? = some (.cells #[.int .i64 0, .int .i64 0, .int .i64 0] 36 (0, 0)) ∧ w7.heap[w.heap.size + 1 + 1 + 1]? = some (.cells #[.int .i64 s1, .int .i64 s2, .int .i64 s3] 36 (0, 0)) ∧ Below w.heap.size w w7 ∧ KeepsOthers W w7 ∧ L_each.Kp w.heap.size (w.heap.size + 1 + 1 + 1 + 1 + 1) (w.heap.size + 1 + 1 + 1 + 1) W w7 ∧ W0.heap.size ≤ w7.heap.size := fun w7 hb => by
   have ha := HZ.out
   have hb6 := H6.out
   have hsz := hb.size
   exact ⟨blk_below H0.out hb, blk_below H1.out hb, blk_below H2.out hb, blk_below H3.out hb, HBB.out.trans (hb.mono (by omega)), others_below hb, ⟨hb.mono (by omega), World.cell?_of_block (hb.block _ (by show w.heap.size + 1 + 1 + 1 + 1 + 1 < _; omega)), World.cell?_of_block (hb.block _ (by show w.heap.size + 1 + 1 + 1 + 1 < _; omega))⟩, by omega⟩
  have hyes : ∀ (w7 : World) (a : Act), Below W.heap.size W w7 → b = true → LEFT Exit.normal a (((w7.setCell ⟨w.heap.size + 1 + 1 + 1, 0, none⟩ (.int .i64 m1)).setCell ⟨w.heap.size + 1 + 1 + 1, 1, none⟩ (.int .i64 m2)).setCell ⟨w.heap.size + 1 + 1 + 1, 2, none⟩ (.int .i64 (j : Int))) := by
   intro w7 a hb ht
   obtain ⟨p0, p1, p2, p3, pB, pK, pKp, pz⟩ := base w7 hb
   rw [← hLEFT]
   refine ⟨((pK.trans (KeepsOthers.setCell _ _ _)).trans (KeepsOthers.setCell _ _ _)).trans (KeepsOthers.setCell _ _ _), ((pKp.setCell (by omega) (by omega) (by omega)).setCell (by omega) (by omega) (by omega)).setCell (by omega) (by omega) (by omega), ⟨_, HQ1.out, ?_, blk_ne_set (blk_ne_set (blk_ne_set p0 (by omega)) (by omega)) (by omega), blk_ne_set (blk_ne_set (blk_ne_set p1 (by omega)) (by omega)) (by omega), blk_ne_set (blk_ne_set (blk_ne_set p2 (by omega)) (by omega)) (by omega), ?_⟩, ((pB.setCell (p := ⟨w.heap.size + 1 + 1 + 1, 0, none⟩) (by show w.heap.size ≤ w.heap.size + 1 + 1 + 1; omega) _).setCell (p := ⟨w.heap.size + 1 + 1 + 1, 1, none⟩) (by show w.heap.size ≤ w.heap.size + 1 + 1 + 1; omega) _).setCell (p := ⟨w.heap.size + 1 + 1 + 1, 2, none⟩) (by show w.heap.size ≤ w.heap.size + 1 + 1 + 1; omega) _⟩
   ·rw [if_pos ht]; exact blk_put (blk_put (blk_put p3 0 _ rfl) 1 _ rfl) 2 _ rfl
   ·simpa [World.setCell] using pz
  have hno : ∀ (w7 : World) (a : Act), Below W.heap.size W w7 → b = false → LEFT Exit.normal a w7 := by
   intro w7 a hb ht
   obtain ⟨p0, p1, p2, p3, pB, pK, pKp, pz⟩ := base w7 hb
   rw [← hLEFT]
   refine ⟨pK, pKp, ⟨_, HQ1.out, ?_, p0, p1, p2, pz⟩, pB⟩
   rw [if_neg (by rw [ht]; decide)]; exact p3
  have HYES := m0 hyes
  have HNO := m0 hno
  clear hyes hno base hLEFT
  cases b
  all_goals
   gi_wp2_with (first | (refine ⟨trivial, ?_⟩; gi_at_call 128; refine (CallsIn.inRound l (callsIn_wide.2 (L_miss.calls k A c row a1 a0_2 a0_3 m1 m2 W HC.out HCC.out HEST.out HMX.out))).mono ?_; rintro e w5 ⟨rfl, hb5⟩; have g3 := blk_below H3.out hb5; have d0 : w5.cell? ⟨w.heap.size + 1 + 1 + 1, 0, none⟩ = some (.int .i64 s1) := (blk_cell g3 0).trans rfl; have d1 : w5.cell? ⟨w.heap.size + 1 + 1 + 1, 1, none⟩ = some (.int .i64 s2) := (blk_cell g3 1).trans rfl; have lt3 := blk_lt g3; have HB5 := m0 hb5; clear hb5 g3) | (refine ⟨trivial, ?_⟩; gi_at_call 126; refine (CallsIn.inRound l (callsIn_wide.2 (L_less.calls s1 s2 m1 m2 _ _ HLS.out))).mono ?_; rintro e w7 ⟨rfl, hb7⟩; have HB7 := m0 (below_then (below_alloc HB5.out _) (Nat.le_trans HB5.out.size (by simp)) hb7); have g8 := blk_below (blk_new w5 (.cells #[.int .i64 m1, .int .i64 m2] 26 (0, 0))) hb7; have e0 : w7.cell? ⟨w5.heap.size, 0, none⟩ = some (.int .i64 m1) := (blk_cell g8 0).trans rfl; have e1 : w7.cell? ⟨w5.heap.size, 1, none⟩ = some (.int .i64 m2) := (blk_cell g8 1).trans rfl; have g3 := blk_below H3.out HB7.out; have d20 : w7.cell? ⟨w.heap.size + 1 + 1 + 1, 0, none⟩ = some (.int .i64 s1) := (blk_cell g3 0).trans rfl; have d21 : w7.cell? ⟨w.heap.size + 1 + 1 + 1, 1, none⟩ = some (.int .i64 s2) := (blk_cell g3 1).trans rfl; have d22 : w7.cell? ⟨w.heap.size + 1 + 1 + 1, 2, none⟩ = some (.int .i64 s3) := (blk_cell g3 2).trans rfl; have f0 := blk_frozen g3 0; have f1 := blk_frozen g3 1; have f2 := blk_frozen g3 2; clear hb7 g8 g3))
   first | exact HYES.out _ _ HB7.out (by simp) | exact HNO.out _ _ HB7.out (by simp)
 case done =>
  rintro D W hD ⟨⟨s, hs, h3, hp0, h1, h2, h6⟩, hB⟩ hK
  rw [HIT.out] at hs
  cases hs
  have hZ := hz
  have c0 : W.cell? ⟨w.heap.size + 1 + 1 + 1, 0, none⟩ = some (.int .i64 r1) := (blk_cell h3 0).trans rfl
  have c1 : W.cell? ⟨w.heap.size + 1 + 1 + 1, 1, none⟩ = some (.int .i64 r2) := (blk_cell h3 1).trans rfl
  have c2 : W.cell? ⟨w.heap.size + 1 + 1 + 1, 2, none⟩ = some (.int .i64 r3) := (blk_cell h3 2).trans rfl
  have z0 : W.cell? ⟨w.heap.size + 1 + 1, 0, none⟩ = some (.int .i64 0) := (blk_cell h2 0).trans rfl
  have z1 : W.cell? ⟨w.heap.size + 1 + 1, 1, none⟩ = some (.int .i64 0) := (blk_cell h2 1).trans rfl
  have z2 : W.cell? ⟨w.heap.size + 1 + 1, 2, none⟩ = some (.int .i64 0) := (blk_cell h2 2).trans rfl
  have f0 := blk_frozen h2 0
  have f1 := blk_frozen h2 1
  have f2 := blk_frozen h2 2
  have H2 := m0 h2
  have HBB := m0 hB
  have HZ := m0 hz
  have HK := m0 hK
  have HD := m0 hD
  clear h1 h2 h3 hp0 hB h6 hz hZ k0 k1 k2 k3 k4 k5 hb0 hall HIT HY hr0_0 hr0_1 hc0_0 hc0_1 hK hD HG
  gi_wp2
  have hZ := HZ.out
  have hD := HD.out
  have hK6 : (((W.setCell ⟨w.heap.size + 1 + 1, 0, none⟩ (.int .i64 r1)).setCell ⟨w.heap.size + 1 + 1, 1, none⟩ (.int .i64 r2)).setCell ⟨w.heap.size + 1 + 1, 2, none⟩ (.int .i64 r3)).heap[D]? = some (.deferred (some [])) := blk_ne_set (blk_ne_set (blk_ne_set HK.out (by omega)) (by omega)) (by omega)
  refine ⟨by simp, .inl ⟨_, _, rfl, run_takeDeferred hK6, ?_⟩⟩
  have b1 : Below w.heap.size w (((W.setCell ⟨w.heap.size + 1 + 1, 0, none⟩ (.int .i64 r1)).setCell ⟨w.heap.size + 1 + 1, 1, none⟩ (.int .i64 r2)).setCell ⟨w.heap.size + 1 + 1, 2, none⟩ (.int .i64 r3)) :=
   ((HBB.out.setCell (p := ⟨w.heap.size + 1 + 1, 0, none⟩) (by show w.heap.size ≤ w.heap.size + 1 + 1; omega) _).setCell (p := ⟨w.heap.size + 1 + 1, 1, none⟩) (by show w.heap.size ≤ w.heap.size + 1 + 1; omega) _).setCell (p := ⟨w.heap.size + 1 + 1, 2, none⟩) (by show w.heap.size ≤ w.heap.size + 1 + 1; omega) _
  exact ⟨.agg #[.int .i64 r1, .int .i64 r2, .int .i64 r3], results_cell_row rfl _ _ (w.heap.size + 1 + 1) 36 #[.int .i64 r1, .int .i64 r2, .int .i64 r3] (0, 0) _ rfl ((World.putObj_heap_other (by omega)).trans (blk_put (blk_put (blk_put H2.out 0 _ rfl) 1 _ rfl) 2 _ rfl)) Tryd.underlying36 rfl (by kernel_rfl), rfl, b1.trans (belowK_b (w := w) (Nat.le_refl _) _ D _ _ (by omega) hK6 rfl rfl)⟩
end
end Go.Proofs.YtjnkphmcndaijaaDoor.A
