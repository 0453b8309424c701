/- Walks of the program's functions (printed, made shorter), each with what it computes. -/
import Derived.Test.YtjnkphmcndaijaaDoorBes04
import Derived.Test.YtjnkphmcndaijaaDoorBes06
import Derived.Test.YtjnkphmcndaijaaDoorBes09
import Derived.Test.YtjnkphmcndaijaaDoorBes10
import Derived.Test.YtjnkphmcndaijaaDoorBes03
namespace Go.Proofs.YtjnkphmcndaijaaDoor.A
set_option maxHeartbeats 8000000
set_option maxRecDepth 100000
open Go.RowKit Go.Proofs.YtjnkphmcndaijaaDoorW.PrintWords Go.Proofs.YtjnkphmcndaijaaDoorW.PrintLast Go.Proofs.YtjnkphmcndaijaaDoorW.PrintMore
attribute [local go_sem] max2_int min2_int max_two min_two max_three min_three max_four min_four
set_option linter.unusedVariables false
set_option linter.unusedSimpArgs false
section
def line_DetectionsIn.l0 : Nat → List Int → List Int → List Int → Int → Int → Int → Int → Option (List Int × Int)
 | 0, _, _, _, _, _, _, _ => none
 | k + 1, x6, x8, x31, x32, x33, x245000, x245001 => if x33 < x32 then (if 0 ≤ x33 then (if x33 < (x31.length : Int) then (if 0 ≤ (mx 0 (wrap64 (x33 - x245001))) then (if (mx 0 (wrap64 (x33 - x245001))) ≤ x33 then (if x33 ≤ (x6.length : Int) then (if x33 ≤ (mn (x6.length : Int) (wrap64 ((wrap64 (x33 + x245001)) + 1))) then (if (mn (x6.length : Int) (wrap64 ((wrap64 (x33 + x245001)) + 1))) ≤ (x6.length : Int) then (if (rd x31 x33) ≥ x245000 then ((Sp_int_106.f k ((x6.take ((mn (x6.length : Int) (wrap64 ((wrap64 (x33 + x245001)) + 1))) : Int).toNat).drop (x33 : Int).toNat)).bind fun t268 => (if (rd x31 x33) = t268 then ((line_ContainsFunc_ge.f ((x6.take (x33 : Int).toNat).drop ((mx 0 (wrap64 (x33 - x245001))) : Int).toNat) (rd x31 x33)).bind fun t269 => (if t269 = true then (line_DetectionsIn.l0 k x6 x8 x31 x32 (wrap64 (x33 + 1)) x245000 x245001) else (if x8.length < 17592186044416 then (line_DetectionsIn.l0 k x6 (x8 ++ [x33]) x31 x32 (wrap64 (x33 + 1)) x245000 x245001) else (none)))) else (line_DetectionsIn.l0 k x6 x8 x31 x32 (wrap64 (x33 + 1)) x245000 x245001))) else (line_DetectionsIn.l0 k x6 x8 x31 x32 (wrap64 (x33 + 1)) x245000 x245001)) else (none)) else (none)) else (none)) else (none)) else (none)) else (none)) else (none)) else (some (x8, 0))
def line_DetectionsIn.f (k : Nat) (l0 : List Int) (a1_0 : Int) (a1_1 : Int) : Option (List Int × Int) := (line_open.f l0).bind fun bt245 => ((line_thresholdErr.f a1_0).bind fun t249 => ((line_within.f a1_1 0 16).bind fun t250 => ((line_unless.f t250 2).bind fun t251 => ((line_first.f k (([bt245.2, t249, t251] : List Int))).bind fun t255 => (if t255 = 0 then (line_DetectionsIn.l0 k bt245.1 ([] : List Int) bt245.1 (bt245.1.length : Int) 0 a1_0 a1_1) else (some (([] : List Int), t255)))))))
theorem line_DetectionsIn.mono_l : ∀ k, (∀ y0 y1 y2 y3 y4 y5 y6, LeO (line_DetectionsIn.l0 k y0 y1 y2 y3 y4 y5 y6) (line_DetectionsIn.l0 (k + 1) y0 y1 y2 y3 y4 y5 y6))
 | 0 => fun _ _ _ _ _ _ _ r h => by simp [line_DetectionsIn.l0] at h
 | k + 1 => by
  have ih0 := line_DetectionsIn.mono_l k
  ·intro y0 y1 y2 y3 y4 y5 y6
   unfold line_DetectionsIn.l0
   repeat' first
   | (with_reducible exact ih0 _ _ _ _ _ _ _)
   | (with_reducible exact line_first.mono _ _)
   | (with_reducible exact Sp_int_106.mono _ _)
   | (with_reducible exact LeO.refl _)
   | (with_reducible exact LeO.none _)
   | (with_reducible refine LeO.ite ?_ ?_)
   | (with_reducible refine LeO.bind ?_ (fun _ => ?_))
   | exact ih0 _ _ _ _ _ _ _
   | exact line_first.mono _ _
   | exact Sp_int_106.mono _ _
   | exact LeO.none _
   | refine LeO.ite ?_ ?_
   | refine LeO.bind ?_ (fun _ => ?_)
theorem line_DetectionsIn.mono : ∀ a0 a1 a2 k, LeO (line_DetectionsIn.f k a0 a1 a2) (line_DetectionsIn.f (k + 1) a0 a1 a2) := by
 intro a0 a1 a2 k
 have ih0 := line_DetectionsIn.mono_l k
 unfold line_DetectionsIn.f
 repeat' first
   | (with_reducible exact ih0 _ _ _ _ _ _ _)
   | (with_reducible exact line_first.mono _ _)
   | (with_reducible exact Sp_int_106.mono _ _)
   | (with_reducible exact LeO.refl _)
   | (with_reducible exact LeO.none _)
   | (with_reducible refine LeO.ite ?_ ?_)
   | (with_reducible refine LeO.bind ?_ (fun _ => ?_))
   | exact ih0 _ _ _ _ _ _ _
   | exact line_first.mono _ _
   | exact Sp_int_106.mono _ _
   | exact LeO.none _
   | refine LeO.ite ?_ ?_
   | refine LeO.bind ?_ (fun _ => ?_)
def line_DetectionsIn.T2 : Bool × List (List Nat × List Nat) := (true, [([], []), ([], []), ([1], [1]), ([2], [2]), ([], []), ([4], [4]), ([5, 3], [5]), ([6, 6], [6]), ([0, 3, 7], [0, 3, 7]), ([8, 7], [8]), ([9, 9, 0, 1, 2, 3, 4, 5, 6, 7, 8, 9], [0, 9])])
def line_DetectionsIn.B2 : List Nat := [0, 0, 2, 6, 0, 16, 62, 126, 255, 511, 1023]
theorem line_DetectionsIn.tab2 : rtab .any (opsOf Tryd.f43 2) = line_DetectionsIn.T2 := by kernel_rfl
theorem line_DetectionsIn.bits2 : waitsOk line_DetectionsIn.T2.2 line_DetectionsIn.B2 = true := by kernel_rfl
def line_DetectionsIn.T9 : Bool × List (List Nat × List Nat) := (true, [([], []), ([], []), ([], []), ([2], [2]), ([1, 3], [1, 3]), ([4], [4]), ([], []), ([0, 5, 6], [0, 5, 6]), ([], []), ([], []), ([], []), ([10], [10]), ([], []), ([], []), ([13], [13]), ([12, 14], [12, 14]), ([15], [15]), ([11, 16], [11, 16]), ([8, 9, 17], [8, 9, 17]), ([7, 0, 1, 2, 3, 4, 5, 6, 7], [7]), ([18, 19, 0, 1, 2, 3, 4, 5, 6, 7, 8, 9, 10, 11, 12, 13, 14, 15, 16, 17, 18, 19], [18])])
def line_DetectionsIn.B9 : List Nat := [0, 0, 0, 4, 14, 30, 0, 127, 0, 0, 0, 1024, 0, 0, 8192, 28672, 61440, 130048, 261888, 255, 1048575]
theorem line_DetectionsIn.tab9 : rtab .any (opsOf Tryd.f43 9) = line_DetectionsIn.T9 := by kernel_rfl
theorem line_DetectionsIn.bits9 : waitsOk line_DetectionsIn.T9.2 line_DetectionsIn.B9 = true := by kernel_rfl
def line_DetectionsIn.T10 : Bool × List (List Nat × List Nat) := (true, [([], []), ([], []), ([1], [1]), ([0, 2], [0, 2]), ([3], [3]), ([4], [4]), ([4], [4]), ([6, 4, 4], [4, 6]), ([5, 7, 4], [4, 5, 7]), ([4, 8], [4, 8]), ([9, 7], [9]), ([10], [10]), ([10], [10]), ([11, 12, 10, 10], [10, 11, 12]), ([13, 10], [10, 13]), ([10, 14], [10, 14])])
def line_DetectionsIn.B10 : List Nat := [0, 0, 2, 7, 15, 31, 31, 95, 255, 511, 1023, 2047, 2047, 8191, 16383, 32767]
theorem line_DetectionsIn.tab10 : rtab .any (opsOf Tryd.f43 10) = line_DetectionsIn.T10 := by kernel_rfl
theorem line_DetectionsIn.bits10 : waitsOk line_DetectionsIn.T10.2 line_DetectionsIn.B10 = true := by kernel_rfl
theorem line_DetectionsIn.calls (k : Nat) (A0 : Option Addr) (c0 : Nat) (l0 : List Int) (a1_0 : Int) (a1_1 : Int) (r1 : List Int) (r2 : Int) (w : World) (hr0 : Kd.C (Kd.int .i64) w A0 l0.length l0) (hc0 : l0.length ≤ c0) (h : line_DetectionsIn.f k l0 a1_0 a1_1 = some (r1, r2)) :
  Calls Tryd.prog 43 #[.slice A0 l0.length c0, .agg #[.int .i64 a1_0, .int .i64 a1_1]] w fun e w' => ∃ v0_ : Value, e = .returned (.tuple #[v0_, .int .i64 r2]) ∧ Kd.R (Kd.int .i64) 3 w' w.heap.size (fun _ => True) v0_ r1 ∧ Below w.heap.size w w' := by
 have hu57 := Tryd.underlying57
 have HR0 := m0 hr0
 have HC0 := m0 hc0
 clear hr0 hc0
 have HB := m0 (Below.refl w.heap.size w)
 have H : ((line_open.f l0).bind fun bt245 => ((line_thresholdErr.f a1_0).bind fun t249 => ((line_within.f a1_1 0 16).bind fun t250 => ((line_unless.f t250 2).bind fun t251 => ((line_first.f k (([bt245.2, t249, t251] : List Int))).bind fun t255 => (if t255 = 0 then (line_DetectionsIn.l0 k bt245.1 ([] : List Int) bt245.1 (bt245.1.length : Int) 0 a1_0 a1_1) else (some (([] : List Int), t255)))))))) = some (r1, r2) := h
 clear h
 replace H := ob H
 obtain ⟨⟨t245, t248⟩, A30, H⟩ := H
 (try dsimp only at H)
 have A3 := m0 A30
 clear A30
 replace H := ob H
 obtain ⟨t249, A40, H⟩ := H
 (try dsimp only at H)
 have A4 := m0 A40
 clear A40
 replace H := ob H
 obtain ⟨t250, A50, H⟩ := H
 (try dsimp only at H)
 have A5 := m0 A50
 clear A50
 replace H := ob H
 obtain ⟨t251, A60, H⟩ := H
 (try dsimp only at H)
 have A6 := m0 A60
 clear A60
 obtain ⟨y252, hy252⟩ : ∃ y_ : List Int, y_ = (([t248, t249, t251] : List Int)) := ⟨_, rfl⟩
 replace H : ((line_first.f k y252).bind fun t255 => (if t255 = 0 then (line_DetectionsIn.l0 k t245 ([] : List Int) t245 (t245.length : Int) 0 a1_0 a1_1) else (some (([] : List Int), t255)))) = some (r1, r2) := by first | (rw [hy252]; with_reducible exact H) | (have H2_ := (Option.bind_some _ _).symm.trans H; rw [hy252]; with_reducible exact H2_) | (have H2_ := (Option.bind_some _ _).symm.trans H; with_reducible exact H2_) | with_reducible exact H | (rw [hy252]; exact H) | exact H
 have Ny252 := m0 hy252
 clear hy252
 replace H := ob H
 obtain ⟨t255, A70, H⟩ := H
 (try dsimp only at H)
 have A7 := m0 A70
 clear A70
 by_cases c8 : t255 = 0
 ·rw [if_pos c8] at H
  have c8b0 := beq_iff_eq.mpr c8
  have c8b1 := bne_eq_false_iff_eq.mpr c8
  clear c8
  have H' := m0 H
  clear H
  go_enter Tryd.func43, Tryd.ntmps43
  try go_wp2_with (first | ((with_reducible refine gate_dst (N := 3) rfl ?_); refine be 3 57 #[.int .i64 a1_0, .int .i64 a1_1] ?_; intro gb244 hg w9 hbox hb; have BK244 := m0 hbox; have GW244 := m0 (bg (n := w.heap.size) hg); have GE244 := m0 (bg (n := w.heap.size) hg); replace HB := sb HB hb; clear hb hbox hg) | ((with_reducible refine gate_callee (f := 102) rfl ?_); refine gl (some 15) Tryd.func102 #[.slice A0 l0.length c0] ?_; (with_reducible refine (line_open.calls (fun k_ => k_ < w.heap.size) _ _ l0 t245 t248 _ ?side1 A3.out).mono ?_); (case side1 => exact Kd.V_mk HC0.out (Kd.F_below (Kd.C_F (Kd.heap_int .i64) HR0.out) bz)); rintro e w10 ⟨v246, rfl, ho0, hb⟩; refine ⟨_, rfl, ?_⟩; have HO247 := m0 (Kd.V_lower (Kd.V_mono (ok' := fun k_ => k_ ≠ gb244) ho0 (fun k_ hk_ => Or.elim hk_ (fun hs_ => fun e_ => Nat.not_le.2 hs_ (by rw [e_]; exact GW244.out)) (fun hn_ => (Kd.freshB (g := gb244) (o := .cells #[.int .i64 a1_0, .int .i64 a1_1] 57 (0, 0)) (bk BK244.out) k_ hn_)))) (below_size bz)); replace BK244 := bb BK244 hb; replace HB := sb HB hb; (try clear hb); (try clear ho0)))
  replace HO247 := m0 (Kd.V_drew HO247.out); replace BK244 := bd BK244; replace HB := sd HB
  refine start_ (n := 11) (S := fun w' => w'.cell? ⟨gb244, 0, none⟩ = some (.int .i64 a1_0) ∧ w'.cell? ⟨gb244, 1, none⟩ = some (.int .i64 a1_1)) (ds := []) #[false, false, false, false, false, false, false, false, false, false, false] (by kernel_rfl) rfl rfl cz (fun hHeld => ?_); refine with_tabW line_DetectionsIn.tab2 line_DetectionsIn.bits2 (fun HT_ HW_ => ?_)
  generalize w10.drew = w11 at HO247 BK244 HB hHeld ⊢
  refine pureZ (i := 0) (N := some 18) #[true, false, false, false, false, false, false, false, false, false, false] HT_ ?_
  refine pureZ (i := 1) (N := some 19) #[true, true, false, false, false, false, false, false, false, false, false] HT_ ?_
  refine pureZ (i := 4) (N := some 22) #[true, true, false, false, true, false, false, false, false, false, false] HT_ ?_
  refine takeZ 2 (some 20) #[true, true, true, false, true, false, false, false, false, false, false] (take_ofW HT_.out HW_.out (by kernel_rfl)) hHeld ?_
  refine takeZ 5 (some 23) #[true, true, true, false, true, true, false, false, false, false, false] (take_ofW HT_.out HW_.out (by kernel_rfl)) hHeld ?_
  refine oneZ 3 (some 21) #[true, true, true, true, true, true, false, false, false, false, false] (one_of HT_.out (by kernel_rfl)) fun K hK => ?_
  refine goes_ Tryd.func100 (by kernel_rfl) rfl #[.int .i64 a1_0] (by rfl) rfl rfl mz ?_
  with_reducible refine (line_thresholdErr.calls a1_0 t249 _ A4.out).mono ?_
  rintro e w' ⟨rfl, ⟨nd, rfl⟩⟩
  refine ⟨_, rfl, ?_⟩
  refine hK.out _ _ cz (fun hHeld => ?_)
  clear hK K
  refine norm_ (a' := ?_) ?_ ?_
  rotate_left
  ·show Act.put _ (some 21) _ = _
   exact pz
  refine oneZ 6 (some 24) #[true, true, true, true, true, true, true, false, false, false, false] (one_of HT_.out (by kernel_rfl)) fun K hK => ?_
  refine goes_ Tryd.func105 (by kernel_rfl) rfl #[.int .i64 a1_1, .int .i64 0, .int .i64 16] (by rfl) rfl rfl mz ?_
  with_reducible refine (line_within.calls a1_1 0 16 t250 _ A5.out).mono ?_
  rintro e w' ⟨rfl, ⟨nd, rfl⟩⟩
  refine ⟨_, rfl, ?_⟩
  refine hK.out _ _ cz (fun hHeld => ?_)
  clear hK K
  refine norm_ (a' := ?_) ?_ ?_
  rotate_left
  ·show Act.put _ (some 24) _ = _
   exact pz
  refine oneZ 7 (some 25) #[true, true, true, true, true, true, true, true, false, false, false] (one_of HT_.out (by kernel_rfl)) fun K hK => ?_
  refine goes_ Tryd.func93 (by kernel_rfl) rfl #[.bool t250, .int .i64 2] (by rfl) rfl rfl mz ?_
  with_reducible refine (line_unless.calls t250 2 t251 _ A6.out).mono ?_
  rintro e w' ⟨rfl, ⟨nd, rfl⟩⟩
  refine ⟨_, rfl, ?_⟩
  refine hK.out _ _ cz (fun hHeld => ?_)
  clear hK K
  refine norm_ (a' := ?_) ?_ ?_
  rotate_left
  ·show Act.put _ (some 25) _ = _
   exact pz
  refine oneZ 8 (some 26) #[true, true, true, true, true, true, true, true, true, false, false] (one_of HT_.out (by kernel_rfl)) fun K hK => ?_
  refine Kd.R_lit_step (Kd.int .i64) _ 31 ?hg (N := 26) ?hd (xs := ([t248, t249, t251] : List Int)) (inner := [.int .i64 t248, .int .i64 t249, .int .i64 t251]) (ok := fun _ => True) (okp := fun _ => True) ?hr ?hp (fun _ hk => hk) trivial (Below.refl _ _) (Nat.le_refl _) (by simp) ?_; (case hd => rfl); (case hg => rfl); (case hr => first | (go_simp; done) | (go_simp; rfl)); (case hp => exact (Reps.one (show Kd.M (Kd.int .i64) _ _ _ t248 [.int .i64 t248] from rfl) (Reps.one (show Kd.M (Kd.int .i64) _ _ _ t249 [.int .i64 t249] from rfl) (Reps.one (show Kd.M (Kd.int .i64) _ _ _ t251 [.int .i64 t251] from rfl) (Reps.none _ _)))))
  intro v253 w12 ho13 hb hg_ hnew_
  clear hg_ hnew_
  (first | rw [← Ny252.out] at ho13 | (simp only [Int.reduceToNat] at ho13; rw [← Ny252.out] at ho13))
  replace HO247 := m0 (Kd.V_elder' (by (with_reducible repeat (first | apply Kd.V_alloc | apply Kd.V_drewN | apply Kd.V_drew)); exact HO247.out) (Kd.R_base ho13) hb); have HO254 := m0 (Kd.R_lower ho13 (below_size bz)); replace BK244 := bb BK244 hb; replace HB := sb HB hb
  clear hb ho13
  obtain ⟨Ao14, co14, eo14⟩ := Kd.R_slice HO254.out
  (first | subst eo14 | (injection eo14 with f1_ f2_ f3_; have f4_ := f1_.symm; have f5_ := f3_.symm; clear f1_ f2_ f3_; subst f4_; subst f5_))
  refine hK.out _ _ cz (fun hHeld => ?_)
  clear hK K
  refine norm_ (a' := ?_) ?_ ?_
  rotate_left
  ·show Act.put _ (some 26) _ = _
   exact pz
  refine oneZ 9 (some 27) #[true, true, true, true, true, true, true, true, true, true, false] (one_of HT_.out (by kernel_rfl)) fun K hK => ?_
  refine goes_ Tryd.func91 (by kernel_rfl) rfl #[.slice Ao14 y252.length co14] (by rfl) rfl rfl mz ?_
  with_reducible refine (line_first.calls k _ _ y252 t255 _ ?side1 ?side2 A7.out).mono ?_
  (case side1 => exact bc (Kd.R_reads' HO254.out).2.2)
  (case side2 => exact (Kd.R_reads' HO254.out).2.1)
  rintro e w' ⟨rfl, ⟨nd, rfl⟩⟩
  refine ⟨_, rfl, ?_⟩
  refine hK.out _ _ cz (fun hHeld => ?_)
  clear hK K
  refine norm_ (a' := ?_) ?_ ?_
  rotate_left
  ·show Act.put _ (some 27) _ = _
   exact pz
  refine pureZ (i := 10) (N := some 7) #[true, true, true, true, true, true, true, true, true, true, true] HT_ ?_
  refine done_ (done_of HT_.out (by kernel_rfl)) ?_
  obtain ⟨Ao15, co15, eo15⟩ := Kd.V_slice HO247.out
  subst eo15
  try go_wp2
  go_loopg [8, 33] k (fun kq v8 v33 w' => ∃ (x8_1 : List Int) (x33_1 : Int), v33 = .int .i64 x33_1 ∧ Aside0 (line_DetectionsIn.l0 kq t245 x8_1 t245 (t245.length : Int) x33_1 a1_0 a1_1 = some (r1, r2)) ∧ Aside0 (kq ≤ k) ∧ Aside0 (Kd.V (Kd.int .i64) 3 w' w.heap.size (fun k_ => some k_ ≠ (v8 : Value).ownBlock ∧ k_ ≠ gb244) (.slice Ao15 t245.length co15) t245) ∧ Aside0 (Kd.R (Kd.int .i64) 3 w' w.heap.size (fun _ => True) v8 x8_1) ∧ Aside0 (Kd.V (Kd.int .i64) 3 w' w.heap.size (fun k_ => some k_ ≠ (v8 : Value).ownBlock ∧ k_ ≠ gb244) (.slice Ao15 t245.length co15) t245) ∧ Aside0 (w'.heap[gb244]? = some (.cells #[.int .i64 a1_0, .int .i64 a1_1] 57 (0, 0))) ∧ Aside0 (Below w.heap.size w w'))
  case atStart => exact ⟨(([] : List Int)), (0), (by first | rfl | (simp; done) | (simp [*]; done)), H', ⟨Nat.le_refl _⟩, ⟨by (with_reducible repeat (first | apply Kd.V_alloc | apply Kd.V_drewN | apply Kd.V_drew)); exact Kd.V_mono HO247.out (fun _ hk => ⟨(by simp [Value.ownBlock]), hk.1⟩)⟩, ⟨by first | exact Kd.R_nil _ _ _ _ _ | exact Kd.N_nil _ _ _ _ _ | exact Kd.V_nil _ _ _ _ _ | exact Kd.Q_nil _ _ _ _ _ | exact Kd.S_nil _ _ _ _ _⟩, ⟨by (with_reducible repeat (first | apply Kd.V_alloc | apply Kd.V_drewN | apply Kd.V_drew)); exact Kd.V_mono HO247.out (fun _ hk => ⟨(by simp [Value.ownBlock]), hk.1⟩)⟩, ⟨bk BK244.out⟩, ⟨bz⟩⟩
  case round =>
   clear H'
   try clear c1
   try clear p2
   try clear c4
   try clear c8
   try clear c8b0
   try clear c8b1
   try clear c9
   try clear c10
   obtain ⟨x8_1, x33_1, rfl, HA, HK1, HO_6, HO_8, HO_31, BK244, HB⟩ := hrel
   cases gk with
   | zero => exact absurd HA.out (by simp [line_DetectionsIn.l0])
   | succ k1 =>
    have H := HA.out
    clear HA
    simp only [line_DetectionsIn.l0] at H
    by_cases c16 : x33_1 < (t245.length : Int)
    ·rw [if_pos c16] at H
     have c16b0 := decide_eq_true c16
     clear c16
     by_cases c17 : 0 ≤ x33_1
     ·rw [if_pos c17] at H
      have c17b0 := decide_eq_true c17
      clear c17
      by_cases c18 : x33_1 < (t245.length : Int)
      ·rw [if_pos c18] at H
       have c18b0 := decide_eq_true c18
       clear c18
       obtain ⟨ji19, hji19⟩ : ∃ j_ : Int, (mx 0 (wrap64 (x33_1 - a1_1))) = j_ := ⟨_, rfl⟩
       replace H : (if 0 ≤ (ji19) then (if (ji19) ≤ x33_1 then (if x33_1 ≤ (t245.length : Int) then (if x33_1 ≤ (mn (t245.length : Int) (wrap64 ((wrap64 (x33_1 + a1_1)) + 1))) then (if (mn (t245.length : Int) (wrap64 ((wrap64 (x33_1 + a1_1)) + 1))) ≤ (t245.length : Int) then (if (rd t245 x33_1) ≥ a1_0 then ((Sp_int_106.f k1 ((t245.take ((mn (t245.length : Int) (wrap64 ((wrap64 (x33_1 + a1_1)) + 1))) : Int).toNat).drop (x33_1 : Int).toNat)).bind fun t268 => (if (rd t245 x33_1) = t268 then ((line_ContainsFunc_ge.f ((t245.take (x33_1 : Int).toNat).drop ((ji19) : Int).toNat) (rd t245 x33_1)).bind fun t269 => (if t269 = true then (line_DetectionsIn.l0 k1 t245 x8_1 t245 (t245.length : Int) (wrap64 (x33_1 + 1)) a1_0 a1_1) else (if x8_1.length < 17592186044416 then (line_DetectionsIn.l0 k1 t245 (x8_1 ++ [x33_1]) t245 (t245.length : Int) (wrap64 (x33_1 + 1)) a1_0 a1_1) else (none)))) else (line_DetectionsIn.l0 k1 t245 x8_1 t245 (t245.length : Int) (wrap64 (x33_1 + 1)) a1_0 a1_1))) else (line_DetectionsIn.l0 k1 t245 x8_1 t245 (t245.length : Int) (wrap64 (x33_1 + 1)) a1_0 a1_1)) else (none)) else (none)) else (none)) else (none)) else (none)) = some (r1, r2) := by first | (rw [hji19] at H; exact H) | (simp only [hji19] at H ⊢; exact H)
       have hji19_ : (if 0 < (wrap64 (x33_1 - a1_1)) then (wrap64 (x33_1 - a1_1)) else 0) = ji19 := hji19
       by_cases c20 : 0 ≤ (ji19)
       ·rw [if_pos c20] at H
        have c20b0 := eq_true c20
        have c20b1 := decide_eq_true c20
        clear c20
        by_cases c21 : (ji19) ≤ x33_1
        ·rw [if_pos c21] at H
         have c21b0 := eq_true c21
         have c21b1 := decide_eq_true c21
         clear c21
         by_cases c22 : x33_1 ≤ (t245.length : Int)
         ·rw [if_pos c22] at H
          have c22b0 := eq_true c22
          have c22b1 := decide_eq_true c22
          clear c22
          obtain ⟨y258, hy258⟩ : ∃ y_ : List Int, y_ = ((t245.take (x33_1 : Int).toNat).drop ((ji19) : Int).toNat) := ⟨_, rfl⟩
          replace H : (if x33_1 ≤ (mn (t245.length : Int) (wrap64 ((wrap64 (x33_1 + a1_1)) + 1))) then (if (mn (t245.length : Int) (wrap64 ((wrap64 (x33_1 + a1_1)) + 1))) ≤ (t245.length : Int) then (if (rd t245 x33_1) ≥ a1_0 then ((Sp_int_106.f k1 ((t245.take ((mn (t245.length : Int) (wrap64 ((wrap64 (x33_1 + a1_1)) + 1))) : Int).toNat).drop (x33_1 : Int).toNat)).bind fun t268 => (if (rd t245 x33_1) = t268 then ((line_ContainsFunc_ge.f y258 (rd t245 x33_1)).bind fun t269 => (if t269 = true then (line_DetectionsIn.l0 k1 t245 x8_1 t245 (t245.length : Int) (wrap64 (x33_1 + 1)) a1_0 a1_1) else (if x8_1.length < 17592186044416 then (line_DetectionsIn.l0 k1 t245 (x8_1 ++ [x33_1]) t245 (t245.length : Int) (wrap64 (x33_1 + 1)) a1_0 a1_1) else (none)))) else (line_DetectionsIn.l0 k1 t245 x8_1 t245 (t245.length : Int) (wrap64 (x33_1 + 1)) a1_0 a1_1))) else (line_DetectionsIn.l0 k1 t245 x8_1 t245 (t245.length : Int) (wrap64 (x33_1 + 1)) a1_0 a1_1)) else (none)) else (none)) = some (r1, r2) := by first | (rw [hy258]; with_reducible exact H) | (have H2_ := (Option.bind_some _ _).symm.trans H; rw [hy258]; with_reducible exact H2_) | (have H2_ := (Option.bind_some _ _).symm.trans H; with_reducible exact H2_) | with_reducible exact H | (rw [hy258]; exact H) | exact H
          have Ny258 := m0 hy258
          clear hy258
          obtain ⟨ji23, hji23⟩ : ∃ j_ : Int, (mn (t245.length : Int) (wrap64 ((wrap64 (x33_1 + a1_1)) + 1))) = j_ := ⟨_, rfl⟩
          replace H : (if x33_1 ≤ (ji23) then (if (ji23) ≤ (t245.length : Int) then (if (rd t245 x33_1) ≥ a1_0 then ((Sp_int_106.f k1 ((t245.take ((ji23) : Int).toNat).drop (x33_1 : Int).toNat)).bind fun t268 => (if (rd t245 x33_1) = t268 then ((line_ContainsFunc_ge.f y258 (rd t245 x33_1)).bind fun t269 => (if t269 = true then (line_DetectionsIn.l0 k1 t245 x8_1 t245 (t245.length : Int) (wrap64 (x33_1 + 1)) a1_0 a1_1) else (if x8_1.length < 17592186044416 then (line_DetectionsIn.l0 k1 t245 (x8_1 ++ [x33_1]) t245 (t245.length : Int) (wrap64 (x33_1 + 1)) a1_0 a1_1) else (none)))) else (line_DetectionsIn.l0 k1 t245 x8_1 t245 (t245.length : Int) (wrap64 (x33_1 + 1)) a1_0 a1_1))) else (line_DetectionsIn.l0 k1 t245 x8_1 t245 (t245.length : Int) (wrap64 (x33_1 + 1)) a1_0 a1_1)) else (none)) else (none)) = some (r1, r2) := by first | (rw [hji23] at H; exact H) | (simp only [hji23] at H ⊢; exact H)
          have hji23_ : (if (wrap64 ((wrap64 (x33_1 + a1_1)) + 1)) < (t245.length : Int) then (wrap64 ((wrap64 (x33_1 + a1_1)) + 1)) else (t245.length : Int)) = ji23 := hji23
          have c24b0 := eq_true (of_decide_eq_true (by first | (with_reducible assumption) | assumption) : 0 ≤ x33_1)
          by_cases c25 : x33_1 ≤ (ji23)
          ·rw [if_pos c25] at H
           have c25b0 := eq_true c25
           have c25b1 := decide_eq_true c25
           clear c25
           by_cases c26 : (ji23) ≤ (t245.length : Int)
           ·rw [if_pos c26] at H
            have c26b0 := eq_true c26
            have c26b1 := decide_eq_true c26
            clear c26
            obtain ⟨y263, hy263⟩ : ∃ y_ : List Int, y_ = ((t245.take ((ji23) : Int).toNat).drop (x33_1 : Int).toNat) := ⟨_, rfl⟩
            replace H : (if (rd t245 x33_1) ≥ a1_0 then ((Sp_int_106.f k1 y263).bind fun t268 => (if (rd t245 x33_1) = t268 then ((line_ContainsFunc_ge.f y258 (rd t245 x33_1)).bind fun t269 => (if t269 = true then (line_DetectionsIn.l0 k1 t245 x8_1 t245 (t245.length : Int) (wrap64 (x33_1 + 1)) a1_0 a1_1) else (if x8_1.length < 17592186044416 then (line_DetectionsIn.l0 k1 t245 (x8_1 ++ [x33_1]) t245 (t245.length : Int) (wrap64 (x33_1 + 1)) a1_0 a1_1) else (none)))) else (line_DetectionsIn.l0 k1 t245 x8_1 t245 (t245.length : Int) (wrap64 (x33_1 + 1)) a1_0 a1_1))) else (line_DetectionsIn.l0 k1 t245 x8_1 t245 (t245.length : Int) (wrap64 (x33_1 + 1)) a1_0 a1_1)) = some (r1, r2) := by first | (rw [hy263]; with_reducible exact H) | (have H2_ := (Option.bind_some _ _).symm.trans H; rw [hy263]; with_reducible exact H2_) | (have H2_ := (Option.bind_some _ _).symm.trans H; with_reducible exact H2_) | with_reducible exact H | (rw [hy263]; exact H) | exact H
            have Ny263 := m0 hy263
            clear hy263
            by_cases c27 : (rd t245 x33_1) ≥ a1_0
            ·rw [if_pos c27] at H
             have c27b0 := decide_eq_true c27
             clear c27
             replace H := ob H
             obtain ⟨t268, A280, H⟩ := H
             (try dsimp only at H)
             have A28 := m0 A280
             clear A280
             by_cases c29 : (rd t245 x33_1) = t268
             ·rw [if_pos c29] at H
              have c29b0 := beq_iff_eq.mpr c29
              have c29b1 := bne_eq_false_iff_eq.mpr c29
              clear c29
              replace H := ob H
              obtain ⟨t269, A300, H⟩ := H
              (try dsimp only at H)
              have A30 := m0 A300
              clear A300
              by_cases c31 : t269 = true
              ·subst c31
               rw [if_pos rfl] at H
               have H' := m0 H
               clear H
               have p256 : 0 ≤ (x33_1 : Int) := of_decide_eq_true (by first | (with_reducible assumption) | assumption)
               have q256 : x33_1 < (t245.length : Int) := of_decide_eq_true (by first | (with_reducible assumption) | assumption)
               obtain ⟨ad256, e256, hx256_0⟩ := Kd.at_int (Kd.V_reads' HO_31.out).2.2 x33_1 p256 q256
               cases e256
               replace p256 := eq_true p256
               replace q256 := eq_true q256
               try go_wp2_with (first | ((with_reducible refine gate_dst (N := 10) rfl ?_); refine be 10 3 #[.int .i64 0] ?_; intro gb257 hg w32 hbox hb; replace HO_6 := m0 (Kd.V_below (Kd.V_elderB (by (with_reducible repeat (first | apply Kd.V_alloc | apply Kd.V_drewN | apply Kd.V_drew)); exact HO_6.out) gb257 (Nat.le_of_eq hg.symm)) hb); replace HO_8 := m0 (Kd.R_below (Kd.R_elderB (br HO_8.out) gb257 (Nat.le_of_eq hg.symm)) hb); replace HO_31 := m0 (Kd.V_below (Kd.V_elderB (by (with_reducible repeat (first | apply Kd.V_alloc | apply Kd.V_drewN | apply Kd.V_drew)); exact HO_31.out) gb257 (Nat.le_of_eq hg.symm)) hb); have BK257 := m0 hbox; have GW257 := m0 (bg (n := w.heap.size) hg); have GE257 := m0 (bg (n := w.heap.size) hg); replace HB := sb HB hb; have NB244_257 := nl BK244 hg; have NB257_244 := ng (nl BK244 hg); replace BK244 := bb BK244 hb; clear hb hbox hg; have hnb33 := NB257_244.out; have hnc33 := NB244_257.out; obtain ⟨_, _⟩ := b1 BK257))
               have n0_ : Aside0 (Kd.V (Kd.int .i64) 3 (w32.setCell ⟨gb257, 0, none⟩ (.int .i64 (rd t245 x33_1))) w.heap.size (fun k_ => some k_ ≠ (u8 : Value).ownBlock ∧ k_ ≠ gb244 ∧ k_ ≠ gb257) (.slice (some ad256) t245.length co15) t245) := ⟨by (with_reducible repeat (first | apply Kd.V_alloc | apply Kd.V_drewN | apply Kd.V_drew)); exact Kd.V_mono (Kd.V_far (p := ⟨gb257, 0, none⟩) (Kd.V_mono HO_6.out (fun k_ hk => (⟨hk, hk.2⟩ : _ ∧ k_ ≠ gb257))) (fun _ hk => hk.2) (.int .i64 (rd t245 x33_1))) (fun _ hk => ⟨hk.1.1.1, ⟨hk.1.1.2, hk.1.2⟩⟩)⟩
               have n1_ : Aside0 (Kd.R (Kd.int .i64) 3 (w32.setCell ⟨gb257, 0, none⟩ (.int .i64 (rd t245 x33_1))) w.heap.size (fun k_ => k_ ≠ gb257) u8 x8_1) := ⟨by (with_reducible repeat (first | apply Kd.R_alloc | apply Kd.R_drewN | apply Kd.R_drew)); exact Kd.R_mono (Kd.R_far (p := ⟨gb257, 0, none⟩) (Kd.R_mono HO_8.out (fun k_ hk => (⟨hk, hk.2⟩ : _ ∧ k_ ≠ gb257))) (fun _ hk => hk.2) (.int .i64 (rd t245 x33_1))) (fun _ hk => hk.1.2)⟩
               have n2_ : Aside0 (Kd.V (Kd.int .i64) 3 (w32.setCell ⟨gb257, 0, none⟩ (.int .i64 (rd t245 x33_1))) w.heap.size (fun k_ => some k_ ≠ (u8 : Value).ownBlock ∧ k_ ≠ gb244 ∧ k_ ≠ gb257) (.slice (some ad256) t245.length co15) t245) := ⟨by (with_reducible repeat (first | apply Kd.V_alloc | apply Kd.V_drewN | apply Kd.V_drew)); exact Kd.V_mono (Kd.V_far (p := ⟨gb257, 0, none⟩) (Kd.V_mono HO_31.out (fun k_ hk => (⟨hk, hk.2⟩ : _ ∧ k_ ≠ gb257))) (fun _ hk => hk.2) (.int .i64 (rd t245 x33_1))) (fun _ hk => ⟨hk.1.1.1, ⟨hk.1.1.2, hk.1.2⟩⟩)⟩
               have n3_ : Aside0 ((w32.setCell ⟨gb257, 0, none⟩ (.int .i64 (rd t245 x33_1))).heap[gb244]? = some (.cells #[.int .i64 a1_0, .int .i64 a1_1] 57 (0, 0))) := ⟨bq BK244.out⟩
               have n4_ : Aside0 ((w32.setCell ⟨gb257, 0, none⟩ (.int .i64 (rd t245 x33_1))).heap[gb257]? = some (.cells #[.int .i64 (rd t245 x33_1)] 3 (0, 0))) := ⟨bq BK257.out⟩
               have n5_ : Aside0 (Below w.heap.size w (w32.setCell ⟨gb257, 0, none⟩ (.int .i64 (rd t245 x33_1)))) := ⟨bz⟩
               (try clear HO_6)
               (try clear HO_8)
               (try clear HO_31)
               (try clear BK244)
               (try clear BK257)
               (try clear HB)
               generalize (w32.setCell ⟨gb257, 0, none⟩ (.int .i64 (rd t245 x33_1))) = w35 at n0_ n1_ n2_ n3_ n4_ n5_ ⊢
               have HO_6 := n0_
               have HO_8 := n1_
               have HO_31 := n2_
               have BK244 := n3_
               have BK257 := n4_
               have HB := n5_
               clear n0_ n1_ n2_ n3_ n4_ n5_
               replace HO_6 := m0 (Kd.V_drew HO_6.out); replace HO_8 := m0 (Kd.R_drew HO_8.out); replace HO_31 := m0 (Kd.V_drew HO_31.out); replace BK244 := bd BK244; replace BK257 := bd BK257; replace HB := sd HB
               have q37 : (x33_1 : Int) ≤ ((t245.length : Int) : Int) := of_decide_eq_true (by first | (with_reducible assumption) | assumption)
               obtain ⟨i037, hi037, _, hsz37, _⟩ := info_parts info3
               have hroom37 : t245.length ≤ co15 := (Kd.V_reads' HO_6.out).2.1
               have hC37 : Kd.F (Kd.int .i64) _ _ (some ad256) t245.length t245 := (Kd.V_at (base := w.heap.size) HO_6.out).2.2
               have ql37 : ((ji19) : Int) ≤ (x33_1 : Int) := of_decide_eq_true (by first | (with_reducible assumption) | assumption)
               have q037 : (0 : Int) ≤ ((ji19) : Int) := of_decide_eq_true (by first | (with_reducible assumption) | assumption)
               have hcut37 := cut_mid (P := Tryd.prog) 120 3 .i64 .i64 Tryd.underlying120 hi037 1 hsz37 (some ad256) t245.length co15 (ji19) x33_1 q037 ql37 q37 hroom37
               have hr37 := Kd.F_mid (lo := ((ji19) : Int).toNat) (hi := (x33_1 : Int).toNat) (c := co15) hC37 (by omega) (by omega) hroom37
               obtain ⟨A37, hA37⟩ : ∃ A1, A1 = (if co15 = ((ji19) : Int).toNat then (some ad256) else ((some ad256) : Option Addr).map (·.add (((ji19) : Int).toNat * 1))) := ⟨_, rfl⟩
               obtain ⟨c37, hc37⟩ : ∃ c1, c1 = co15 - ((ji19) : Int).toNat := ⟨_, rfl⟩
               have hy37 : y258.length = (x33_1 : Int).toNat - ((ji19) : Int).toNat := (by rw [Ny258.out, List.length_drop, List.length_take] <;> omega)
               rw [show ((t245).take (x33_1 : Int).toNat).drop ((ji19) : Int).toNat = y258 from Ny258.out.symm] at hr37
               replace hr37 : Kd.F (Kd.int .i64) _ _ A37 y258.length y258 := (by rw [hA37]; exact hr37)
               rw [← hy37, ← hA37, ← hc37] at hcut37
               have HO262 := m0 (show Kd.V (Kd.int .i64) 3 _ w.heap.size _ (.slice A37 y258.length c37) y258 from Kd.V_mk (by rw [hy37, hc37]; exact Nat.sub_le_sub_right (Nat.le_trans (by omega) hroom37) _) hr37)
               have HC262 := m0 (show y258.length ≤ c37 from by rw [hy37, hc37]; exact Nat.sub_le_sub_right (Nat.le_trans (by omega) hroom37) _)
               clear hr37 hC37 hroom37 hi037 hsz37 hc37
               have KY37 := m0 hy37
               have KA37 := m0 hA37
               clear hy37 hA37
               replace q37 := eq_true q37
               have q38 : ((ji23) : Int) ≤ ((t245.length : Int) : Int) := of_decide_eq_true (by first | (with_reducible assumption) | assumption)
               obtain ⟨i038, hi038, _, hsz38, _⟩ := info_parts info3
               have hroom38 : t245.length ≤ co15 := (Kd.V_reads' HO_6.out).2.1
               have hC38 : Kd.F (Kd.int .i64) _ _ (some ad256) t245.length t245 := (Kd.V_at (base := w.heap.size) HO_6.out).2.2
               have ql38 : (x33_1 : Int) ≤ ((ji23) : Int) := of_decide_eq_true (by first | (with_reducible assumption) | assumption)
               have q038 : (0 : Int) ≤ (x33_1 : Int) := of_decide_eq_true (by first | (with_reducible assumption) | assumption)
               have hcut38 := cut_mid (P := Tryd.prog) 120 3 .i64 .i64 Tryd.underlying120 hi038 1 hsz38 (some ad256) t245.length co15 x33_1 (ji23) q038 ql38 q38 hroom38
               have hr38 := Kd.F_mid (lo := (x33_1 : Int).toNat) (hi := ((ji23) : Int).toNat) (c := co15) hC38 (by omega) (by omega) hroom38
               obtain ⟨A38, hA38⟩ : ∃ A1, A1 = (if co15 = (x33_1 : Int).toNat then (some ad256) else ((some ad256) : Option Addr).map (·.add ((x33_1 : Int).toNat * 1))) := ⟨_, rfl⟩
               obtain ⟨c38, hc38⟩ : ∃ c1, c1 = co15 - (x33_1 : Int).toNat := ⟨_, rfl⟩
               have hy38 : y263.length = ((ji23) : Int).toNat - (x33_1 : Int).toNat := (by rw [Ny263.out, List.length_drop, List.length_take] <;> omega)
               rw [show ((t245).take ((ji23) : Int).toNat).drop (x33_1 : Int).toNat = y263 from Ny263.out.symm] at hr38
               replace hr38 : Kd.F (Kd.int .i64) _ _ A38 y263.length y263 := (by rw [hA38]; exact hr38)
               rw [← hy38, ← hA38, ← hc38] at hcut38
               have HO267 := m0 (show Kd.V (Kd.int .i64) 3 _ w.heap.size _ (.slice A38 y263.length c38) y263 from Kd.V_mk (by rw [hy38, hc38]; exact Nat.sub_le_sub_right (Nat.le_trans (by omega) hroom38) _) hr38)
               have HC267 := m0 (show y263.length ≤ c38 from by rw [hy38, hc38]; exact Nat.sub_le_sub_right (Nat.le_trans (by omega) hroom38) _)
               clear hr38 hC38 hroom38 hi038 hsz38 hc38
               have KY38 := m0 hy38
               have KA38 := m0 hA38
               clear hy38 hA38
               replace q38 := eq_true q38
               refine start_ (n := 21) (S := fun w' => w'.cell? ⟨gb244, 0, none⟩ = some (.int .i64 a1_0) ∧ w'.cell? ⟨gb244, 1, none⟩ = some (.int .i64 a1_1)) (ds := []) #[false, false, false, false, false, false, false, false, false, false, false, false, false, false, false, false, false, false, false, false, false] (by kernel_rfl) rfl rfl cz (fun hHeld => ?_); refine with_tabW line_DetectionsIn.tab9 line_DetectionsIn.bits9 (fun HT_ HW_ => ?_)
               generalize w35.drew = w36 at HO_6 HO_8 HO_31 BK244 BK257 HB HO262 HO267 hHeld ⊢
               refine pureZ (i := 0) (N := some 38) (bs 21 1) HT_ ?_
               refine pureZ (i := 1) (N := some 39) (bs 21 3) HT_ ?_
               refine pureZ (i := 2) (N := some 40) (bs 21 7) HT_ ?_
               refine pureZ (i := 6) (N := some 44) (bs 21 71) HT_ ?_
               refine pureZ (i := 8) (N := some 46) (bs 21 327) HT_ ?_
               refine pureZ (i := 9) (N := some 47) (bs 21 839) HT_ ?_
               refine pureZ (i := 10) (N := some 48) (bs 21 1863) HT_ ?_
               refine pureZ (i := 11) (N := some 49) (bs 21 3911) HT_ ?_
               refine pureZ (i := 12) (N := some 50) (bs 21 8007) HT_ ?_
               refine pureZ (i := 13) (N := some 51) (bs 21 16199) HT_ ?_
               refine takeZ 3 (some 41) (bs 21 16207) (take_ofW HT_.out HW_.out (by kernel_rfl)) hHeld ?_
               refine pureZ (i := 4) (N := some 42) (bs 21 16223) HT_ ?_
               refine pureZ (i := 5) (N := some 43) (bs 21 16255) HT_ ?_
               refine pureZ (i := 7) (N := some 45) (bs 21 16383) HT_ ?_
               refine pureZ (i := 19) (N := some 11) (bs 21 540671) HT_ ?_
               refine takeZ 14 (some 52) (bs 21 557055) (take_ofW HT_.out HW_.out (by kernel_rfl)) hHeld ?_
               refine pureZ (i := 15) (N := some 53) (bs 21 589823) HT_ ?_
               refine pureZ (i := 16) (N := some 54) (bs 21 655359) HT_ ?_
               refine pureZ (i := 17) (N := some 55) (bs 21 786431) HT_ ?_
               refine pureZ (i := 18) (N := some 56) (bs 21 1048575) HT_ ?_
               refine pureZ (i := 20) (N := some 12) (bs 21 2097151) HT_ ?_
               refine done_ (done_of HT_.out (by kernel_rfl)) ?_
               try go_wp2
               replace HO_6 := m0 (Kd.V_drew HO_6.out); replace HO_8 := m0 (Kd.R_drew HO_8.out); replace HO_31 := m0 (Kd.V_drew HO_31.out); replace HO262 := m0 (Kd.V_drew HO262.out); replace HO267 := m0 (Kd.V_drew HO267.out); replace BK244 := bd BK244; replace BK257 := bd BK257; replace HB := sd HB
               refine start_ (n := 16) (S := fun w' => w'.cell? ⟨gb257, 0, none⟩ = some (.int .i64 (rd t245 x33_1)) ∧ w'.cell? ⟨gb244, 0, none⟩ = some (.int .i64 a1_0) ∧ w'.cell? ⟨gb244, 1, none⟩ = some (.int .i64 a1_1)) (ds := []) #[false, false, false, false, false, false, false, false, false, false, false, false, false, false, false, false] (by kernel_rfl) rfl rfl cz (fun hHeld => ?_); refine with_tabW line_DetectionsIn.tab10 line_DetectionsIn.bits10 (fun HT_ HW_ => ?_)
               generalize w36.drew = w39 at HO_6 HO_8 HO_31 HO262 HO267 BK244 BK257 HB hHeld ⊢
               refine pureZ (i := 1) (N := some 58) (bs 16 2) HT_ ?_
               refine takeZ 0 (some 57) (bs 16 3) (take_ofW HT_.out HW_.out (by kernel_rfl)) hHeld ?_
               refine takeZ 2 (some 59) (bs 16 7) (take_ofW HT_.out HW_.out (by kernel_rfl)) hHeld ?_
               refine pureZ (i := 3) (N := some 60) (bs 16 15) HT_ ?_
               refine pureZ (i := 4) (N := some 61) (bs 16 31) HT_ ?_
               refine pureZ (i := 6) (N := some 63) (bs 16 95) HT_ ?_
               refine takeZ 5 (some 62) (bs 16 127) (take_ofW HT_.out HW_.out (by kernel_rfl)) hHeld ?_
               refine oneZ 7 (some 64) (bs 16 255) (one_of HT_.out (by kernel_rfl)) fun K hK => ?_
               refine goes_ Tryd.func106 (by kernel_rfl) rfl #[.slice A38 y263.length c38] (by rfl) rfl rfl mz ?_
               with_reducible refine (Sp_int_106.calls k1 _ _ y263 t268 _ ?side1 ?side2 A28.out).mono ?_
               (case side1 => repeat (first | exact (Kd.V_reads' HO267.out).2.2 | (with_reducible refine Kd.C_alloc ?_ _) | (with_reducible refine Kd.C_drewN ?_ _) | (with_reducible refine Kd.C_drew ?_)))
               (case side2 => exact (Kd.V_reads' HO267.out).2.1)
               rintro e w40 ⟨rfl, hb⟩
               refine ⟨_, rfl, ?_⟩
               replace HO_6 := m0 (Kd.V_below (by (with_reducible repeat (first | apply Kd.V_alloc | apply Kd.V_drewN | apply Kd.V_drew)); exact HO_6.out) hb); replace HO_8 := rb HO_8 hb; replace HO_31 := m0 (Kd.V_below (by (with_reducible repeat (first | apply Kd.V_alloc | apply Kd.V_drewN | apply Kd.V_drew)); exact HO_31.out) hb); replace HO262 := m0 (Kd.V_below (by (with_reducible repeat (first | apply Kd.V_alloc | apply Kd.V_drewN | apply Kd.V_drew)); exact HO262.out) hb); replace HO267 := m0 (Kd.V_below (by (with_reducible repeat (first | apply Kd.V_alloc | apply Kd.V_drewN | apply Kd.V_drew)); exact HO267.out) hb); replace BK244 := bb BK244 hb; replace BK257 := bb BK257 hb; replace HB := sb HB hb
               (try clear hb)
               refine hK.out _ _ cz (fun hHeld => ?_)
               clear hK K
               refine norm_ (a' := ?_) ?_ ?_
               rotate_left
               ·show Act.put _ (some 64) _ = _
                exact pz
               refine pureZ (i := 8) (N := some 65) (bs 16 511) HT_ ?_
               refine pureZ (i := 9) (N := some 66) (bs 16 1023) HT_ ?_
               refine pureZ (i := 10) (N := some 67) (bs 16 2047) HT_ ?_
               refine pureZ (i := 11) (N := some 68) (bs 16 4095) HT_ ?_
               refine pureZ (i := 12) (N := some 69) (bs 16 8191) HT_ ?_
               refine oneZ 13 (some 70) (bs 16 16383) (one_of HT_.out (by kernel_rfl)) fun K hK => ?_
               refine goes_ Tryd.func107 (by kernel_rfl) rfl #[.slice A37 y258.length c37, .func (.func 108) #[] #[.pointer (some ⟨gb257, 0, none⟩)]] (by rfl) rfl rfl mz ?_
               with_reducible refine (line_ContainsFunc_ge.calls _ _ y258 gb257 (rd t245 x33_1) true _ ?side1 ?side2 ?side3 A30.out).mono ?_
               (case side1 => repeat (first | exact (Kd.V_reads' HO262.out).2.2 | (with_reducible refine Kd.C_alloc ?_ _) | (with_reducible refine Kd.C_drewN ?_ _) | (with_reducible refine Kd.C_drew ?_)))
               (case side2 => exact (Kd.V_reads' HO262.out).2.1)
               (case side3 => exact (bk BK257.out))
               rintro e w' ⟨rfl, ⟨nd, rfl⟩⟩
               refine ⟨_, rfl, ?_⟩
               refine hK.out _ _ cz (fun hHeld => ?_)
               clear hK K
               refine norm_ (a' := ?_) ?_ ?_
               rotate_left
               ·show Act.put _ (some 70) _ = _
                exact pz
               refine pureZ (i := 14) (N := some 71) (bs 16 32767) HT_ ?_
               refine pureZ (i := 15) (N := some 72) (bs 16 65535) HT_ ?_
               refine done_ (done_of HT_.out (by kernel_rfl)) ?_
               try go_wp2
               go_roundg k1
               case measure => have := HK1.out; omega
               case rel => exact ⟨(x8_1), (wrap64 (x33_1 + 1)), (by first | rfl | (simp; done) | (simp [*]; done)), H', ⟨by have := HK1.out; omega⟩, ⟨by (with_reducible repeat (first | apply Kd.V_alloc | apply Kd.V_drewN | apply Kd.V_drew)); exact Kd.V_mono HO_6.out (fun _ hk => ⟨hk.1, hk.2.1⟩)⟩, ⟨by (with_reducible repeat (first | apply Kd.R_alloc | apply Kd.R_drewN | apply Kd.R_drew)); exact Kd.R_mono HO_8.out (fun _ hk => trivial)⟩, ⟨by (with_reducible repeat (first | apply Kd.V_alloc | apply Kd.V_drewN | apply Kd.V_drew)); exact Kd.V_mono HO_31.out (fun _ hk => ⟨hk.1, hk.2.1⟩)⟩, ⟨bk BK244.out⟩, ⟨bz⟩⟩
              ·replace c31 := Bool.eq_false_iff.mpr c31
               subst c31
               rw [if_neg (show ¬ (false = true) by decide)] at H
               by_cases c41 : x8_1.length < 17592186044416
               ·rw [if_pos c41] at H
                have LMc41 := m0 c41
                clear c41
                obtain ⟨y270, hy270⟩ : ∃ y_ : List Int, y_ = (x8_1 ++ [x33_1]) := ⟨_, rfl⟩
                replace H : (line_DetectionsIn.l0 k1 t245 y270 t245 (t245.length : Int) (wrap64 (x33_1 + 1)) a1_0 a1_1) = some (r1, r2) := by first | (rw [hy270]; with_reducible exact H) | (have H2_ := (Option.bind_some _ _).symm.trans H; rw [hy270]; with_reducible exact H2_) | (have H2_ := (Option.bind_some _ _).symm.trans H; with_reducible exact H2_) | with_reducible exact H | (rw [hy270]; exact H) | exact H
                have Ny270 := m0 hy270
                clear hy270
                have H' := m0 H
                clear H
                have p256 : 0 ≤ (x33_1 : Int) := of_decide_eq_true (by first | (with_reducible assumption) | assumption)
                have q256 : x33_1 < (t245.length : Int) := of_decide_eq_true (by first | (with_reducible assumption) | assumption)
                obtain ⟨ad256, e256, hx256_0⟩ := Kd.at_int (Kd.V_reads' HO_31.out).2.2 x33_1 p256 q256
                cases e256
                replace p256 := eq_true p256
                replace q256 := eq_true q256
                try go_wp2_with (first | ((with_reducible refine gate_dst (N := 10) rfl ?_); refine be 10 3 #[.int .i64 0] ?_; intro gb257 hg w42 hbox hb; replace HO_6 := m0 (Kd.V_below (Kd.V_elderB (by (with_reducible repeat (first | apply Kd.V_alloc | apply Kd.V_drewN | apply Kd.V_drew)); exact HO_6.out) gb257 (Nat.le_of_eq hg.symm)) hb); replace HO_8 := m0 (Kd.R_below (Kd.R_elderB (br HO_8.out) gb257 (Nat.le_of_eq hg.symm)) hb); replace HO_31 := m0 (Kd.V_below (Kd.V_elderB (by (with_reducible repeat (first | apply Kd.V_alloc | apply Kd.V_drewN | apply Kd.V_drew)); exact HO_31.out) gb257 (Nat.le_of_eq hg.symm)) hb); have BK257 := m0 hbox; have GW257 := m0 (bg (n := w.heap.size) hg); have GE257 := m0 (bg (n := w.heap.size) hg); replace HB := sb HB hb; have NB244_257 := nl BK244 hg; have NB257_244 := ng (nl BK244 hg); replace BK244 := bb BK244 hb; clear hb hbox hg; have hnb43 := NB257_244.out; have hnc43 := NB244_257.out; obtain ⟨_, _⟩ := b1 BK257))
                have n0_ : Aside0 (Kd.V (Kd.int .i64) 3 (w42.setCell ⟨gb257, 0, none⟩ (.int .i64 (rd t245 x33_1))) w.heap.size (fun k_ => some k_ ≠ (u8 : Value).ownBlock ∧ k_ ≠ gb244 ∧ k_ ≠ gb257) (.slice (some ad256) t245.length co15) t245) := ⟨by (with_reducible repeat (first | apply Kd.V_alloc | apply Kd.V_drewN | apply Kd.V_drew)); exact Kd.V_mono (Kd.V_far (p := ⟨gb257, 0, none⟩) (Kd.V_mono HO_6.out (fun k_ hk => (⟨hk, hk.2⟩ : _ ∧ k_ ≠ gb257))) (fun _ hk => hk.2) (.int .i64 (rd t245 x33_1))) (fun _ hk => ⟨hk.1.1.1, ⟨hk.1.1.2, hk.1.2⟩⟩)⟩
                have n1_ : Aside0 (Kd.R (Kd.int .i64) 3 (w42.setCell ⟨gb257, 0, none⟩ (.int .i64 (rd t245 x33_1))) w.heap.size (fun k_ => k_ ≠ gb257) u8 x8_1) := ⟨by (with_reducible repeat (first | apply Kd.R_alloc | apply Kd.R_drewN | apply Kd.R_drew)); exact Kd.R_mono (Kd.R_far (p := ⟨gb257, 0, none⟩) (Kd.R_mono HO_8.out (fun k_ hk => (⟨hk, hk.2⟩ : _ ∧ k_ ≠ gb257))) (fun _ hk => hk.2) (.int .i64 (rd t245 x33_1))) (fun _ hk => hk.1.2)⟩
                have n2_ : Aside0 (Kd.V (Kd.int .i64) 3 (w42.setCell ⟨gb257, 0, none⟩ (.int .i64 (rd t245 x33_1))) w.heap.size (fun k_ => some k_ ≠ (u8 : Value).ownBlock ∧ k_ ≠ gb244 ∧ k_ ≠ gb257) (.slice (some ad256) t245.length co15) t245) := ⟨by (with_reducible repeat (first | apply Kd.V_alloc | apply Kd.V_drewN | apply Kd.V_drew)); exact Kd.V_mono (Kd.V_far (p := ⟨gb257, 0, none⟩) (Kd.V_mono HO_31.out (fun k_ hk => (⟨hk, hk.2⟩ : _ ∧ k_ ≠ gb257))) (fun _ hk => hk.2) (.int .i64 (rd t245 x33_1))) (fun _ hk => ⟨hk.1.1.1, ⟨hk.1.1.2, hk.1.2⟩⟩)⟩
                have n3_ : Aside0 ((w42.setCell ⟨gb257, 0, none⟩ (.int .i64 (rd t245 x33_1))).heap[gb244]? = some (.cells #[.int .i64 a1_0, .int .i64 a1_1] 57 (0, 0))) := ⟨bq BK244.out⟩
                have n4_ : Aside0 ((w42.setCell ⟨gb257, 0, none⟩ (.int .i64 (rd t245 x33_1))).heap[gb257]? = some (.cells #[.int .i64 (rd t245 x33_1)] 3 (0, 0))) := ⟨bq BK257.out⟩
                have n5_ : Aside0 (Below w.heap.size w (w42.setCell ⟨gb257, 0, none⟩ (.int .i64 (rd t245 x33_1)))) := ⟨bz⟩
                (try clear HO_6)
                (try clear HO_8)
                (try clear HO_31)
                (try clear BK244)
                (try clear BK257)
                (try clear HB)
                generalize (w42.setCell ⟨gb257, 0, none⟩ (.int .i64 (rd t245 x33_1))) = w45 at n0_ n1_ n2_ n3_ n4_ n5_ ⊢
                have HO_6 := n0_
                have HO_8 := n1_
                have HO_31 := n2_
                have BK244 := n3_
                have BK257 := n4_
                have HB := n5_
                clear n0_ n1_ n2_ n3_ n4_ n5_
                replace HO_6 := m0 (Kd.V_drew HO_6.out); replace HO_8 := m0 (Kd.R_drew HO_8.out); replace HO_31 := m0 (Kd.V_drew HO_31.out); replace BK244 := bd BK244; replace BK257 := bd BK257; replace HB := sd HB
                have q47 : (x33_1 : Int) ≤ ((t245.length : Int) : Int) := of_decide_eq_true (by first | (with_reducible assumption) | assumption)
                obtain ⟨i047, hi047, _, hsz47, _⟩ := info_parts info3
                have hroom47 : t245.length ≤ co15 := (Kd.V_reads' HO_6.out).2.1
                have hC47 : Kd.F (Kd.int .i64) _ _ (some ad256) t245.length t245 := (Kd.V_at (base := w.heap.size) HO_6.out).2.2
                have ql47 : ((ji19) : Int) ≤ (x33_1 : Int) := of_decide_eq_true (by first | (with_reducible assumption) | assumption)
                have q047 : (0 : Int) ≤ ((ji19) : Int) := of_decide_eq_true (by first | (with_reducible assumption) | assumption)
                have hcut47 := cut_mid (P := Tryd.prog) 120 3 .i64 .i64 Tryd.underlying120 hi047 1 hsz47 (some ad256) t245.length co15 (ji19) x33_1 q047 ql47 q47 hroom47
                have hr47 := Kd.F_mid (lo := ((ji19) : Int).toNat) (hi := (x33_1 : Int).toNat) (c := co15) hC47 (by omega) (by omega) hroom47
                obtain ⟨A47, hA47⟩ : ∃ A1, A1 = (if co15 = ((ji19) : Int).toNat then (some ad256) else ((some ad256) : Option Addr).map (·.add (((ji19) : Int).toNat * 1))) := ⟨_, rfl⟩
                obtain ⟨c47, hc47⟩ : ∃ c1, c1 = co15 - ((ji19) : Int).toNat := ⟨_, rfl⟩
                have hy47 : y258.length = (x33_1 : Int).toNat - ((ji19) : Int).toNat := (by rw [Ny258.out, List.length_drop, List.length_take] <;> omega)
                rw [show ((t245).take (x33_1 : Int).toNat).drop ((ji19) : Int).toNat = y258 from Ny258.out.symm] at hr47
                replace hr47 : Kd.F (Kd.int .i64) _ _ A47 y258.length y258 := (by rw [hA47]; exact hr47)
                rw [← hy47, ← hA47, ← hc47] at hcut47
                have HO262 := m0 (show Kd.V (Kd.int .i64) 3 _ w.heap.size _ (.slice A47 y258.length c47) y258 from Kd.V_mk (by rw [hy47, hc47]; exact Nat.sub_le_sub_right (Nat.le_trans (by omega) hroom47) _) hr47)
                have HC262 := m0 (show y258.length ≤ c47 from by rw [hy47, hc47]; exact Nat.sub_le_sub_right (Nat.le_trans (by omega) hroom47) _)
                clear hr47 hC47 hroom47 hi047 hsz47 hc47
                have KY47 := m0 hy47
                have KA47 := m0 hA47
                clear hy47 hA47
                replace q47 := eq_true q47
                have q48 : ((ji23) : Int) ≤ ((t245.length : Int) : Int) := of_decide_eq_true (by first | (with_reducible assumption) | assumption)
                obtain ⟨i048, hi048, _, hsz48, _⟩ := info_parts info3
                have hroom48 : t245.length ≤ co15 := (Kd.V_reads' HO_6.out).2.1
                have hC48 : Kd.F (Kd.int .i64) _ _ (some ad256) t245.length t245 := (Kd.V_at (base := w.heap.size) HO_6.out).2.2
                have ql48 : (x33_1 : Int) ≤ ((ji23) : Int) := of_decide_eq_true (by first | (with_reducible assumption) | assumption)
                have q048 : (0 : Int) ≤ (x33_1 : Int) := of_decide_eq_true (by first | (with_reducible assumption) | assumption)
                have hcut48 := cut_mid (P := Tryd.prog) 120 3 .i64 .i64 Tryd.underlying120 hi048 1 hsz48 (some ad256) t245.length co15 x33_1 (ji23) q048 ql48 q48 hroom48
                have hr48 := Kd.F_mid (lo := (x33_1 : Int).toNat) (hi := ((ji23) : Int).toNat) (c := co15) hC48 (by omega) (by omega) hroom48
                obtain ⟨A48, hA48⟩ : ∃ A1, A1 = (if co15 = (x33_1 : Int).toNat then (some ad256) else ((some ad256) : Option Addr).map (·.add ((x33_1 : Int).toNat * 1))) := ⟨_, rfl⟩
                obtain ⟨c48, hc48⟩ : ∃ c1, c1 = co15 - (x33_1 : Int).toNat := ⟨_, rfl⟩
                have hy48 : y263.length = ((ji23) : Int).toNat - (x33_1 : Int).toNat := (by rw [Ny263.out, List.length_drop, List.length_take] <;> omega)
                rw [show ((t245).take ((ji23) : Int).toNat).drop (x33_1 : Int).toNat = y263 from Ny263.out.symm] at hr48
                replace hr48 : Kd.F (Kd.int .i64) _ _ A48 y263.length y263 := (by rw [hA48]; exact hr48)
                rw [← hy48, ← hA48, ← hc48] at hcut48
                have HO267 := m0 (show Kd.V (Kd.int .i64) 3 _ w.heap.size _ (.slice A48 y263.length c48) y263 from Kd.V_mk (by rw [hy48, hc48]; exact Nat.sub_le_sub_right (Nat.le_trans (by omega) hroom48) _) hr48)
                have HC267 := m0 (show y263.length ≤ c48 from by rw [hy48, hc48]; exact Nat.sub_le_sub_right (Nat.le_trans (by omega) hroom48) _)
                clear hr48 hC48 hroom48 hi048 hsz48 hc48
                have KY48 := m0 hy48
                have KA48 := m0 hA48
                clear hy48 hA48
                replace q48 := eq_true q48
                refine start_ (n := 21) (S := fun w' => w'.cell? ⟨gb244, 0, none⟩ = some (.int .i64 a1_0) ∧ w'.cell? ⟨gb244, 1, none⟩ = some (.int .i64 a1_1)) (ds := []) #[false, false, false, false, false, false, false, false, false, false, false, false, false, false, false, false, false, false, false, false, false] (by kernel_rfl) rfl rfl cz (fun hHeld => ?_); refine with_tabW line_DetectionsIn.tab9 line_DetectionsIn.bits9 (fun HT_ HW_ => ?_)
                generalize w45.drew = w46 at HO_6 HO_8 HO_31 BK244 BK257 HB HO262 HO267 hHeld ⊢
                refine pureZ (i := 0) (N := some 38) (bs 21 1) HT_ ?_
                refine pureZ (i := 1) (N := some 39) (bs 21 3) HT_ ?_
                refine pureZ (i := 2) (N := some 40) (bs 21 7) HT_ ?_
                refine pureZ (i := 6) (N := some 44) (bs 21 71) HT_ ?_
                refine pureZ (i := 8) (N := some 46) (bs 21 327) HT_ ?_
                refine pureZ (i := 9) (N := some 47) (bs 21 839) HT_ ?_
                refine pureZ (i := 10) (N := some 48) (bs 21 1863) HT_ ?_
                refine pureZ (i := 11) (N := some 49) (bs 21 3911) HT_ ?_
                refine pureZ (i := 12) (N := some 50) (bs 21 8007) HT_ ?_
                refine pureZ (i := 13) (N := some 51) (bs 21 16199) HT_ ?_
                refine takeZ 3 (some 41) (bs 21 16207) (take_ofW HT_.out HW_.out (by kernel_rfl)) hHeld ?_
                refine pureZ (i := 4) (N := some 42) (bs 21 16223) HT_ ?_
                refine pureZ (i := 5) (N := some 43) (bs 21 16255) HT_ ?_
                refine pureZ (i := 7) (N := some 45) (bs 21 16383) HT_ ?_
                refine pureZ (i := 19) (N := some 11) (bs 21 540671) HT_ ?_
                refine takeZ 14 (some 52) (bs 21 557055) (take_ofW HT_.out HW_.out (by kernel_rfl)) hHeld ?_
                refine pureZ (i := 15) (N := some 53) (bs 21 589823) HT_ ?_
                refine pureZ (i := 16) (N := some 54) (bs 21 655359) HT_ ?_
                refine pureZ (i := 17) (N := some 55) (bs 21 786431) HT_ ?_
                refine pureZ (i := 18) (N := some 56) (bs 21 1048575) HT_ ?_
                refine pureZ (i := 20) (N := some 12) (bs 21 2097151) HT_ ?_
                refine done_ (done_of HT_.out (by kernel_rfl)) ?_
                try go_wp2
                replace HO_6 := m0 (Kd.V_drew HO_6.out); replace HO_8 := m0 (Kd.R_drew HO_8.out); replace HO_31 := m0 (Kd.V_drew HO_31.out); replace HO262 := m0 (Kd.V_drew HO262.out); replace HO267 := m0 (Kd.V_drew HO267.out); replace BK244 := bd BK244; replace BK257 := bd BK257; replace HB := sd HB
                refine start_ (n := 16) (S := fun w' => w'.cell? ⟨gb257, 0, none⟩ = some (.int .i64 (rd t245 x33_1)) ∧ w'.cell? ⟨gb244, 0, none⟩ = some (.int .i64 a1_0) ∧ w'.cell? ⟨gb244, 1, none⟩ = some (.int .i64 a1_1)) (ds := []) #[false, false, false, false, false, false, false, false, false, false, false, false, false, false, false, false] (by kernel_rfl) rfl rfl cz (fun hHeld => ?_); refine with_tabW line_DetectionsIn.tab10 line_DetectionsIn.bits10 (fun HT_ HW_ => ?_)
                generalize w46.drew = w49 at HO_6 HO_8 HO_31 HO262 HO267 BK244 BK257 HB hHeld ⊢
                refine pureZ (i := 1) (N := some 58) (bs 16 2) HT_ ?_
                refine takeZ 0 (some 57) (bs 16 3) (take_ofW HT_.out HW_.out (by kernel_rfl)) hHeld ?_
                refine takeZ 2 (some 59) (bs 16 7) (take_ofW HT_.out HW_.out (by kernel_rfl)) hHeld ?_
                refine pureZ (i := 3) (N := some 60) (bs 16 15) HT_ ?_
                refine pureZ (i := 4) (N := some 61) (bs 16 31) HT_ ?_
                refine pureZ (i := 6) (N := some 63) (bs 16 95) HT_ ?_
                refine takeZ 5 (some 62) (bs 16 127) (take_ofW HT_.out HW_.out (by kernel_rfl)) hHeld ?_
                refine oneZ 7 (some 64) (bs 16 255) (one_of HT_.out (by kernel_rfl)) fun K hK => ?_
                refine goes_ Tryd.func106 (by kernel_rfl) rfl #[.slice A48 y263.length c48] (by rfl) rfl rfl mz ?_
                with_reducible refine (Sp_int_106.calls k1 _ _ y263 t268 _ ?side1 ?side2 A28.out).mono ?_
                (case side1 => repeat (first | exact (Kd.V_reads' HO267.out).2.2 | (with_reducible refine Kd.C_alloc ?_ _) | (with_reducible refine Kd.C_drewN ?_ _) | (with_reducible refine Kd.C_drew ?_)))
                (case side2 => exact (Kd.V_reads' HO267.out).2.1)
                rintro e w50 ⟨rfl, hb⟩
                refine ⟨_, rfl, ?_⟩
                replace HO_6 := m0 (Kd.V_below (by (with_reducible repeat (first | apply Kd.V_alloc | apply Kd.V_drewN | apply Kd.V_drew)); exact HO_6.out) hb); replace HO_8 := rb HO_8 hb; replace HO_31 := m0 (Kd.V_below (by (with_reducible repeat (first | apply Kd.V_alloc | apply Kd.V_drewN | apply Kd.V_drew)); exact HO_31.out) hb); replace HO262 := m0 (Kd.V_below (by (with_reducible repeat (first | apply Kd.V_alloc | apply Kd.V_drewN | apply Kd.V_drew)); exact HO262.out) hb); replace HO267 := m0 (Kd.V_below (by (with_reducible repeat (first | apply Kd.V_alloc | apply Kd.V_drewN | apply Kd.V_drew)); exact HO267.out) hb); replace BK244 := bb BK244 hb; replace BK257 := bb BK257 hb; replace HB := sb HB hb
                (try clear hb)
                refine hK.out _ _ cz (fun hHeld => ?_)
                clear hK K
                refine norm_ (a' := ?_) ?_ ?_
                rotate_left
                ·show Act.put _ (some 64) _ = _
                 exact pz
                refine pureZ (i := 8) (N := some 65) (bs 16 511) HT_ ?_
                refine pureZ (i := 9) (N := some 66) (bs 16 1023) HT_ ?_
                refine pureZ (i := 10) (N := some 67) (bs 16 2047) HT_ ?_
                refine pureZ (i := 11) (N := some 68) (bs 16 4095) HT_ ?_
                refine pureZ (i := 12) (N := some 69) (bs 16 8191) HT_ ?_
                refine oneZ 13 (some 70) (bs 16 16383) (one_of HT_.out (by kernel_rfl)) fun K hK => ?_
                refine goes_ Tryd.func107 (by kernel_rfl) rfl #[.slice A47 y258.length c47, .func (.func 108) #[] #[.pointer (some ⟨gb257, 0, none⟩)]] (by rfl) rfl rfl mz ?_
                with_reducible refine (line_ContainsFunc_ge.calls _ _ y258 gb257 (rd t245 x33_1) false _ ?side1 ?side2 ?side3 A30.out).mono ?_
                (case side1 => repeat (first | exact (Kd.V_reads' HO262.out).2.2 | (with_reducible refine Kd.C_alloc ?_ _) | (with_reducible refine Kd.C_drewN ?_ _) | (with_reducible refine Kd.C_drew ?_)))
                (case side2 => exact (Kd.V_reads' HO262.out).2.1)
                (case side3 => exact (bk BK257.out))
                rintro e w' ⟨rfl, ⟨nd, rfl⟩⟩
                refine ⟨_, rfl, ?_⟩
                refine hK.out _ _ cz (fun hHeld => ?_)
                clear hK K
                refine norm_ (a' := ?_) ?_ ?_
                rotate_left
                ·show Act.put _ (some 70) _ = _
                 exact pz
                refine pureZ (i := 14) (N := some 71) (bs 16 32767) HT_ ?_
                refine pureZ (i := 15) (N := some 72) (bs 16 65535) HT_ ?_
                refine done_ (done_of HT_.out (by kernel_rfl)) ?_
                try go_wp2_with (first | ((with_reducible refine gate_builtin (b := .append) (xs := #[.tmp 73, .tmp 75]) rfl ?_); at_builtin; refine Kd.R_append (Kd.int .i64) (w0 := w) w.heap.size rfl (.tmp 73) (.tmp 75) 22 3 (.int .i64 0) 8 rfl Tryd.underlying22 info3 rfl (by decide) (by omega) u8 x8_1 x33_1 [.int .i64 x33_1] (fun k_ => k_ ≠ gb257) (fun _ => False) rfl rfl ?aP (fun _ hk => hk.elim) ?aF ?aO ?aB ?aS ?aL ?_; (case aP => exact rfl); (case aB => exact bz); (case aF => exact (fun k_ hk => Kd.freshB (g := gb257) (o := .cells #[.int .i64 (rd t245 x33_1)] 3 (0, 0)) (bk BK257.out) k_ hk)); (case aO => exact (br HO_8.out)); (case aS => exact (below_size bz)); (case aL => have := LMc41.out; omega); intro v271 w51 ho hb hg hat; rw [← Ny270.out] at ho; have n0_ := m0 (Kd.V_afterv (ok := (fun k_ => k_ ≠ gb244 ∧ k_ ≠ gb257)) (by (with_reducible repeat (first | apply Kd.V_alloc | apply Kd.V_drewN | apply Kd.V_drew)); exact Kd.V_mono HO_6.out (fun _ hk => ⟨⟨hk.2.1, hk.2.2⟩, hk.1⟩)) hg hat); have n1_ := m0 (Kd.V_afterv (ok := (fun k_ => k_ ≠ gb244 ∧ k_ ≠ gb257)) (by (with_reducible repeat (first | apply Kd.V_alloc | apply Kd.V_drewN | apply Kd.V_drew)); exact Kd.V_mono HO_31.out (fun _ hk => ⟨⟨hk.2.1, hk.2.2⟩, hk.1⟩)) hg hat); have n2_ := m0 (blk_grown (g := gb244) (o := .cells #[.int .i64 a1_0, .int .i64 a1_1] 57 (0, 0)) (bk BK244.out) hg (Kd.R_ne HO_8.out BK244.out (by decide))); have n3_ := m0 (blk_grown (g := gb257) (o := .cells #[.int .i64 (rd t245 x33_1)] 3 (0, 0)) (bk BK257.out) hg (Kd.R_away HO_8.out (fun _ hk => hk))); have n4_ := m0 (Kd.V_afterv (ok := (fun k_ => k_ ≠ gb244 ∧ k_ ≠ gb257)) (by (with_reducible repeat (first | apply Kd.V_alloc | apply Kd.V_drewN | apply Kd.V_drew)); exact Kd.V_mono HO262.out (fun _ hk => ⟨⟨hk.2.1, hk.2.2⟩, hk.1⟩)) hg hat); have n5_ := m0 (Kd.V_afterv (ok := (fun k_ => k_ ≠ gb244 ∧ k_ ≠ gb257)) (by (with_reducible repeat (first | apply Kd.V_alloc | apply Kd.V_drewN | apply Kd.V_drew)); exact Kd.V_mono HO267.out (fun _ hk => ⟨⟨hk.2.1, hk.2.2⟩, hk.1⟩)) hg hat); have n6_ := m0 (hb); have n7_ := m0 (ho); clear HO_6; clear HO_31; clear BK244; clear BK257; clear HO262; clear HO267; clear HB; clear HO_8; have HO_6 := n0_; have HO_31 := n1_; have BK244 := n2_; have BK257 := n3_; have HO262 := n4_; have HO267 := n5_; have HB := n6_; have HO272 := n7_; clear n0_ n1_ n2_ n3_ n4_ n5_ n6_ n7_; clear ho hb hg hat))
                go_roundg k1
                case measure => have := HK1.out; omega
                case rel => exact ⟨(y270), (wrap64 (x33_1 + 1)), (by first | rfl | (simp; done) | (simp [*]; done)), H', ⟨by have := HK1.out; omega⟩, ⟨by (with_reducible repeat (first | apply Kd.V_alloc | apply Kd.V_drewN | apply Kd.V_drew)); exact Kd.V_mono HO_6.out (fun _ hk => ⟨hk.2, hk.1.1⟩)⟩, ⟨by (with_reducible repeat (first | apply Kd.R_alloc | apply Kd.R_drewN | apply Kd.R_drew)); exact Kd.R_mono HO272.out (fun _ hk => trivial)⟩, ⟨by (with_reducible repeat (first | apply Kd.V_alloc | apply Kd.V_drewN | apply Kd.V_drew)); exact Kd.V_mono HO_31.out (fun _ hk => ⟨hk.2, hk.1.1⟩)⟩, ⟨bk BK244.out⟩, ⟨bz⟩⟩
               ·rw [if_neg c41] at H
                exact absurd H (by simp)
             ·rw [if_neg c29] at H
              have c29b0 := beq_eq_false_iff_ne.mpr c29
              have c29b1 := bne_iff_ne.mpr c29
              have H' := m0 H
              clear H
              have p256 : 0 ≤ (x33_1 : Int) := of_decide_eq_true (by first | (with_reducible assumption) | assumption)
              have q256 : x33_1 < (t245.length : Int) := of_decide_eq_true (by first | (with_reducible assumption) | assumption)
              obtain ⟨ad256, e256, hx256_0⟩ := Kd.at_int (Kd.V_reads' HO_31.out).2.2 x33_1 p256 q256
              cases e256
              replace p256 := eq_true p256
              replace q256 := eq_true q256
              try go_wp2_with (first | ((with_reducible refine gate_dst (N := 10) rfl ?_); refine be 10 3 #[.int .i64 0] ?_; intro gb257 hg w52 hbox hb; replace HO_6 := m0 (Kd.V_below (Kd.V_elderB (by (with_reducible repeat (first | apply Kd.V_alloc | apply Kd.V_drewN | apply Kd.V_drew)); exact HO_6.out) gb257 (Nat.le_of_eq hg.symm)) hb); replace HO_8 := m0 (Kd.R_below (Kd.R_elderB (br HO_8.out) gb257 (Nat.le_of_eq hg.symm)) hb); replace HO_31 := m0 (Kd.V_below (Kd.V_elderB (by (with_reducible repeat (first | apply Kd.V_alloc | apply Kd.V_drewN | apply Kd.V_drew)); exact HO_31.out) gb257 (Nat.le_of_eq hg.symm)) hb); have BK257 := m0 hbox; have GW257 := m0 (bg (n := w.heap.size) hg); have GE257 := m0 (bg (n := w.heap.size) hg); replace HB := sb HB hb; have NB244_257 := nl BK244 hg; have NB257_244 := ng (nl BK244 hg); replace BK244 := bb BK244 hb; clear hb hbox hg; have hnb53 := NB257_244.out; have hnc53 := NB244_257.out; obtain ⟨_, _⟩ := b1 BK257))
              have n0_ : Aside0 (Kd.V (Kd.int .i64) 3 (w52.setCell ⟨gb257, 0, none⟩ (.int .i64 (rd t245 x33_1))) w.heap.size (fun k_ => some k_ ≠ (u8 : Value).ownBlock ∧ k_ ≠ gb244 ∧ k_ ≠ gb257) (.slice (some ad256) t245.length co15) t245) := ⟨by (with_reducible repeat (first | apply Kd.V_alloc | apply Kd.V_drewN | apply Kd.V_drew)); exact Kd.V_mono (Kd.V_far (p := ⟨gb257, 0, none⟩) (Kd.V_mono HO_6.out (fun k_ hk => (⟨hk, hk.2⟩ : _ ∧ k_ ≠ gb257))) (fun _ hk => hk.2) (.int .i64 (rd t245 x33_1))) (fun _ hk => ⟨hk.1.1.1, ⟨hk.1.1.2, hk.1.2⟩⟩)⟩
              have n1_ : Aside0 (Kd.R (Kd.int .i64) 3 (w52.setCell ⟨gb257, 0, none⟩ (.int .i64 (rd t245 x33_1))) w.heap.size (fun k_ => k_ ≠ gb257) u8 x8_1) := ⟨by (with_reducible repeat (first | apply Kd.R_alloc | apply Kd.R_drewN | apply Kd.R_drew)); exact Kd.R_mono (Kd.R_far (p := ⟨gb257, 0, none⟩) (Kd.R_mono HO_8.out (fun k_ hk => (⟨hk, hk.2⟩ : _ ∧ k_ ≠ gb257))) (fun _ hk => hk.2) (.int .i64 (rd t245 x33_1))) (fun _ hk => hk.1.2)⟩
              have n2_ : Aside0 (Kd.V (Kd.int .i64) 3 (w52.setCell ⟨gb257, 0, none⟩ (.int .i64 (rd t245 x33_1))) w.heap.size (fun k_ => some k_ ≠ (u8 : Value).ownBlock ∧ k_ ≠ gb244 ∧ k_ ≠ gb257) (.slice (some ad256) t245.length co15) t245) := ⟨by (with_reducible repeat (first | apply Kd.V_alloc | apply Kd.V_drewN | apply Kd.V_drew)); exact Kd.V_mono (Kd.V_far (p := ⟨gb257, 0, none⟩) (Kd.V_mono HO_31.out (fun k_ hk => (⟨hk, hk.2⟩ : _ ∧ k_ ≠ gb257))) (fun _ hk => hk.2) (.int .i64 (rd t245 x33_1))) (fun _ hk => ⟨hk.1.1.1, ⟨hk.1.1.2, hk.1.2⟩⟩)⟩
              have n3_ : Aside0 ((w52.setCell ⟨gb257, 0, none⟩ (.int .i64 (rd t245 x33_1))).heap[gb244]? = some (.cells #[.int .i64 a1_0, .int .i64 a1_1] 57 (0, 0))) := ⟨bq BK244.out⟩
              have n4_ : Aside0 ((w52.setCell ⟨gb257, 0, none⟩ (.int .i64 (rd t245 x33_1))).heap[gb257]? = some (.cells #[.int .i64 (rd t245 x33_1)] 3 (0, 0))) := ⟨bq BK257.out⟩
              have n5_ : Aside0 (Below w.heap.size w (w52.setCell ⟨gb257, 0, none⟩ (.int .i64 (rd t245 x33_1)))) := ⟨bz⟩
              (try clear HO_6)
              (try clear HO_8)
              (try clear HO_31)
              (try clear BK244)
              (try clear BK257)
              (try clear HB)
              generalize (w52.setCell ⟨gb257, 0, none⟩ (.int .i64 (rd t245 x33_1))) = w55 at n0_ n1_ n2_ n3_ n4_ n5_ ⊢
              have HO_6 := n0_
              have HO_8 := n1_
              have HO_31 := n2_
              have BK244 := n3_
              have BK257 := n4_
              have HB := n5_
              clear n0_ n1_ n2_ n3_ n4_ n5_
              replace HO_6 := m0 (Kd.V_drew HO_6.out); replace HO_8 := m0 (Kd.R_drew HO_8.out); replace HO_31 := m0 (Kd.V_drew HO_31.out); replace BK244 := bd BK244; replace BK257 := bd BK257; replace HB := sd HB
              have q57 : (x33_1 : Int) ≤ ((t245.length : Int) : Int) := of_decide_eq_true (by first | (with_reducible assumption) | assumption)
              obtain ⟨i057, hi057, _, hsz57, _⟩ := info_parts info3
              have hroom57 : t245.length ≤ co15 := (Kd.V_reads' HO_6.out).2.1
              have hC57 : Kd.F (Kd.int .i64) _ _ (some ad256) t245.length t245 := (Kd.V_at (base := w.heap.size) HO_6.out).2.2
              have ql57 : ((ji19) : Int) ≤ (x33_1 : Int) := of_decide_eq_true (by first | (with_reducible assumption) | assumption)
              have q057 : (0 : Int) ≤ ((ji19) : Int) := of_decide_eq_true (by first | (with_reducible assumption) | assumption)
              have hcut57 := cut_mid (P := Tryd.prog) 120 3 .i64 .i64 Tryd.underlying120 hi057 1 hsz57 (some ad256) t245.length co15 (ji19) x33_1 q057 ql57 q57 hroom57
              have hr57 := Kd.F_mid (lo := ((ji19) : Int).toNat) (hi := (x33_1 : Int).toNat) (c := co15) hC57 (by omega) (by omega) hroom57
              obtain ⟨A57, hA57⟩ : ∃ A1, A1 = (if co15 = ((ji19) : Int).toNat then (some ad256) else ((some ad256) : Option Addr).map (·.add (((ji19) : Int).toNat * 1))) := ⟨_, rfl⟩
              obtain ⟨c57, hc57⟩ : ∃ c1, c1 = co15 - ((ji19) : Int).toNat := ⟨_, rfl⟩
              have hy57 : y258.length = (x33_1 : Int).toNat - ((ji19) : Int).toNat := (by rw [Ny258.out, List.length_drop, List.length_take] <;> omega)
              rw [show ((t245).take (x33_1 : Int).toNat).drop ((ji19) : Int).toNat = y258 from Ny258.out.symm] at hr57
              replace hr57 : Kd.F (Kd.int .i64) _ _ A57 y258.length y258 := (by rw [hA57]; exact hr57)
              rw [← hy57, ← hA57, ← hc57] at hcut57
              have HO262 := m0 (show Kd.V (Kd.int .i64) 3 _ w.heap.size _ (.slice A57 y258.length c57) y258 from Kd.V_mk (by rw [hy57, hc57]; exact Nat.sub_le_sub_right (Nat.le_trans (by omega) hroom57) _) hr57)
              have HC262 := m0 (show y258.length ≤ c57 from by rw [hy57, hc57]; exact Nat.sub_le_sub_right (Nat.le_trans (by omega) hroom57) _)
              clear hr57 hC57 hroom57 hi057 hsz57 hc57
              have KY57 := m0 hy57
              have KA57 := m0 hA57
              clear hy57 hA57
              replace q57 := eq_true q57
              have q58 : ((ji23) : Int) ≤ ((t245.length : Int) : Int) := of_decide_eq_true (by first | (with_reducible assumption) | assumption)
              obtain ⟨i058, hi058, _, hsz58, _⟩ := info_parts info3
              have hroom58 : t245.length ≤ co15 := (Kd.V_reads' HO_6.out).2.1
              have hC58 : Kd.F (Kd.int .i64) _ _ (some ad256) t245.length t245 := (Kd.V_at (base := w.heap.size) HO_6.out).2.2
              have ql58 : (x33_1 : Int) ≤ ((ji23) : Int) := of_decide_eq_true (by first | (with_reducible assumption) | assumption)
              have q058 : (0 : Int) ≤ (x33_1 : Int) := of_decide_eq_true (by first | (with_reducible assumption) | assumption)
              have hcut58 := cut_mid (P := Tryd.prog) 120 3 .i64 .i64 Tryd.underlying120 hi058 1 hsz58 (some ad256) t245.length co15 x33_1 (ji23) q058 ql58 q58 hroom58
              have hr58 := Kd.F_mid (lo := (x33_1 : Int).toNat) (hi := ((ji23) : Int).toNat) (c := co15) hC58 (by omega) (by omega) hroom58
              obtain ⟨A58, hA58⟩ : ∃ A1, A1 = (if co15 = (x33_1 : Int).toNat then (some ad256) else ((some ad256) : Option Addr).map (·.add ((x33_1 : Int).toNat * 1))) := ⟨_, rfl⟩
              obtain ⟨c58, hc58⟩ : ∃ c1, c1 = co15 - (x33_1 : Int).toNat := ⟨_, rfl⟩
              have hy58 : y263.length = ((ji23) : Int).toNat - (x33_1 : Int).toNat := (by rw [Ny263.out, List.length_drop, List.length_take] <;> omega)
              rw [show ((t245).take ((ji23) : Int).toNat).drop (x33_1 : Int).toNat = y263 from Ny263.out.symm] at hr58
              replace hr58 : Kd.F (Kd.int .i64) _ _ A58 y263.length y263 := (by rw [hA58]; exact hr58)
              rw [← hy58, ← hA58, ← hc58] at hcut58
              have HO267 := m0 (show Kd.V (Kd.int .i64) 3 _ w.heap.size _ (.slice A58 y263.length c58) y263 from Kd.V_mk (by rw [hy58, hc58]; exact Nat.sub_le_sub_right (Nat.le_trans (by omega) hroom58) _) hr58)
              have HC267 := m0 (show y263.length ≤ c58 from by rw [hy58, hc58]; exact Nat.sub_le_sub_right (Nat.le_trans (by omega) hroom58) _)
              clear hr58 hC58 hroom58 hi058 hsz58 hc58
              have KY58 := m0 hy58
              have KA58 := m0 hA58
              clear hy58 hA58
              replace q58 := eq_true q58
              refine start_ (n := 21) (S := fun w' => w'.cell? ⟨gb244, 0, none⟩ = some (.int .i64 a1_0) ∧ w'.cell? ⟨gb244, 1, none⟩ = some (.int .i64 a1_1)) (ds := []) #[false, false, false, false, false, false, false, false, false, false, false, false, false, false, false, false, false, false, false, false, false] (by kernel_rfl) rfl rfl cz (fun hHeld => ?_); refine with_tabW line_DetectionsIn.tab9 line_DetectionsIn.bits9 (fun HT_ HW_ => ?_)
              generalize w55.drew = w56 at HO_6 HO_8 HO_31 BK244 BK257 HB HO262 HO267 hHeld ⊢
              refine pureZ (i := 0) (N := some 38) (bs 21 1) HT_ ?_
              refine pureZ (i := 1) (N := some 39) (bs 21 3) HT_ ?_
              refine pureZ (i := 2) (N := some 40) (bs 21 7) HT_ ?_
              refine pureZ (i := 6) (N := some 44) (bs 21 71) HT_ ?_
              refine pureZ (i := 8) (N := some 46) (bs 21 327) HT_ ?_
              refine pureZ (i := 9) (N := some 47) (bs 21 839) HT_ ?_
              refine pureZ (i := 10) (N := some 48) (bs 21 1863) HT_ ?_
              refine pureZ (i := 11) (N := some 49) (bs 21 3911) HT_ ?_
              refine pureZ (i := 12) (N := some 50) (bs 21 8007) HT_ ?_
              refine pureZ (i := 13) (N := some 51) (bs 21 16199) HT_ ?_
              refine takeZ 3 (some 41) (bs 21 16207) (take_ofW HT_.out HW_.out (by kernel_rfl)) hHeld ?_
              refine pureZ (i := 4) (N := some 42) (bs 21 16223) HT_ ?_
              refine pureZ (i := 5) (N := some 43) (bs 21 16255) HT_ ?_
              refine pureZ (i := 7) (N := some 45) (bs 21 16383) HT_ ?_
              refine pureZ (i := 19) (N := some 11) (bs 21 540671) HT_ ?_
              refine takeZ 14 (some 52) (bs 21 557055) (take_ofW HT_.out HW_.out (by kernel_rfl)) hHeld ?_
              refine pureZ (i := 15) (N := some 53) (bs 21 589823) HT_ ?_
              refine pureZ (i := 16) (N := some 54) (bs 21 655359) HT_ ?_
              refine pureZ (i := 17) (N := some 55) (bs 21 786431) HT_ ?_
              refine pureZ (i := 18) (N := some 56) (bs 21 1048575) HT_ ?_
              refine pureZ (i := 20) (N := some 12) (bs 21 2097151) HT_ ?_
              refine done_ (done_of HT_.out (by kernel_rfl)) ?_
              try go_wp2
              replace HO_6 := m0 (Kd.V_drew HO_6.out); replace HO_8 := m0 (Kd.R_drew HO_8.out); replace HO_31 := m0 (Kd.V_drew HO_31.out); replace HO262 := m0 (Kd.V_drew HO262.out); replace HO267 := m0 (Kd.V_drew HO267.out); replace BK244 := bd BK244; replace BK257 := bd BK257; replace HB := sd HB
              refine start_ (n := 16) (S := fun w' => w'.cell? ⟨gb257, 0, none⟩ = some (.int .i64 (rd t245 x33_1)) ∧ w'.cell? ⟨gb244, 0, none⟩ = some (.int .i64 a1_0) ∧ w'.cell? ⟨gb244, 1, none⟩ = some (.int .i64 a1_1)) (ds := []) #[false, false, false, false, false, false, false, false, false, false, false, false, false, false, false, false] (by kernel_rfl) rfl rfl cz (fun hHeld => ?_); refine with_tabW line_DetectionsIn.tab10 line_DetectionsIn.bits10 (fun HT_ HW_ => ?_)
              generalize w56.drew = w59 at HO_6 HO_8 HO_31 HO262 HO267 BK244 BK257 HB hHeld ⊢
              refine pureZ (i := 1) (N := some 58) (bs 16 2) HT_ ?_
              refine takeZ 0 (some 57) (bs 16 3) (take_ofW HT_.out HW_.out (by kernel_rfl)) hHeld ?_
              refine takeZ 2 (some 59) (bs 16 7) (take_ofW HT_.out HW_.out (by kernel_rfl)) hHeld ?_
              refine pureZ (i := 3) (N := some 60) (bs 16 15) HT_ ?_
              refine pureZ (i := 4) (N := some 61) (bs 16 31) HT_ ?_
              refine pureZ (i := 6) (N := some 63) (bs 16 95) HT_ ?_
              refine takeZ 5 (some 62) (bs 16 127) (take_ofW HT_.out HW_.out (by kernel_rfl)) hHeld ?_
              refine oneZ 7 (some 64) (bs 16 255) (one_of HT_.out (by kernel_rfl)) fun K hK => ?_
              refine goes_ Tryd.func106 (by kernel_rfl) rfl #[.slice A58 y263.length c58] (by rfl) rfl rfl mz ?_
              with_reducible refine (Sp_int_106.calls k1 _ _ y263 t268 _ ?side1 ?side2 A28.out).mono ?_
              (case side1 => repeat (first | exact (Kd.V_reads' HO267.out).2.2 | (with_reducible refine Kd.C_alloc ?_ _) | (with_reducible refine Kd.C_drewN ?_ _) | (with_reducible refine Kd.C_drew ?_)))
              (case side2 => exact (Kd.V_reads' HO267.out).2.1)
              rintro e w60 ⟨rfl, hb⟩
              refine ⟨_, rfl, ?_⟩
              replace HO_6 := m0 (Kd.V_below (by (with_reducible repeat (first | apply Kd.V_alloc | apply Kd.V_drewN | apply Kd.V_drew)); exact HO_6.out) hb); replace HO_8 := rb HO_8 hb; replace HO_31 := m0 (Kd.V_below (by (with_reducible repeat (first | apply Kd.V_alloc | apply Kd.V_drewN | apply Kd.V_drew)); exact HO_31.out) hb); replace HO262 := m0 (Kd.V_below (by (with_reducible repeat (first | apply Kd.V_alloc | apply Kd.V_drewN | apply Kd.V_drew)); exact HO262.out) hb); replace HO267 := m0 (Kd.V_below (by (with_reducible repeat (first | apply Kd.V_alloc | apply Kd.V_drewN | apply Kd.V_drew)); exact HO267.out) hb); replace BK244 := bb BK244 hb; replace BK257 := bb BK257 hb; replace HB := sb HB hb
              (try clear hb)
              refine hK.out _ _ cz (fun hHeld => ?_)
              clear hK K
              refine norm_ (a' := ?_) ?_ ?_
              rotate_left
              ·show Act.put _ (some 64) _ = _
               exact pz
              refine pureZ (i := 8) (N := some 65) (bs 16 511) HT_ ?_
              refine pureZ (i := 9) (N := some 66) (bs 16 1023) HT_ ?_
              refine pureZ (i := 10) (N := some 67) (bs 16 2047) HT_ ?_
              refine pure_ (i := 11) (N := some 68) (v := undef) (a' := ?_) (bs 16 4095) rfl rfl (any_of HT_.out (by kernel_rfl)) (fun _ _ _ h => h) (Or.inr ⟨by rfl, rfl⟩) ?_ ?_
              rotate_left
              ·exact pz
              refine pure_ (i := 12) (N := some 69) (v := undef) (a' := ?_) (bs 16 8191) rfl rfl (any_of HT_.out (by kernel_rfl)) (fun _ _ _ h => h) (Or.inr ⟨by rfl, rfl⟩) ?_ ?_
              rotate_left
              ·exact pz
              refine pure_ (i := 13) (N := some 70) (v := undef) (a' := ?_) (bs 16 16383) rfl rfl (any_of HT_.out (by kernel_rfl)) (fun _ _ _ h => h) (Or.inr ⟨by rfl, rfl⟩) ?_ ?_
              rotate_left
              ·exact pz
              refine pure_ (i := 14) (N := some 71) (v := undef) (a' := ?_) (bs 16 32767) rfl rfl (any_of HT_.out (by kernel_rfl)) (fun _ _ _ h => h) (Or.inr ⟨by rfl, rfl⟩) ?_ ?_
              rotate_left
              ·exact pz
              refine pureZ (i := 15) (N := some 72) (bs 16 65535) HT_ ?_
              refine done_ (done_of HT_.out (by kernel_rfl)) ?_
              try go_wp2
              go_roundg k1
              case measure => have := HK1.out; omega
              case rel => exact ⟨(x8_1), (wrap64 (x33_1 + 1)), (by first | rfl | (simp; done) | (simp [*]; done)), H', ⟨by have := HK1.out; omega⟩, ⟨by (with_reducible repeat (first | apply Kd.V_alloc | apply Kd.V_drewN | apply Kd.V_drew)); exact Kd.V_mono HO_6.out (fun _ hk => ⟨hk.1, hk.2.1⟩)⟩, ⟨by (with_reducible repeat (first | apply Kd.R_alloc | apply Kd.R_drewN | apply Kd.R_drew)); exact Kd.R_mono HO_8.out (fun _ hk => trivial)⟩, ⟨by (with_reducible repeat (first | apply Kd.V_alloc | apply Kd.V_drewN | apply Kd.V_drew)); exact Kd.V_mono HO_31.out (fun _ hk => ⟨hk.1, hk.2.1⟩)⟩, ⟨bk BK244.out⟩, ⟨bz⟩⟩
            ·rw [if_neg c27] at H
             have c27b0 := decide_eq_false c27
             clear c27
             have H' := m0 H
             clear H
             have p256 : 0 ≤ (x33_1 : Int) := of_decide_eq_true (by first | (with_reducible assumption) | assumption)
             have q256 : x33_1 < (t245.length : Int) := of_decide_eq_true (by first | (with_reducible assumption) | assumption)
             obtain ⟨ad256, e256, hx256_0⟩ := Kd.at_int (Kd.V_reads' HO_31.out).2.2 x33_1 p256 q256
             cases e256
             replace p256 := eq_true p256
             replace q256 := eq_true q256
             try go_wp2_with (first | ((with_reducible refine gate_dst (N := 10) rfl ?_); refine be 10 3 #[.int .i64 0] ?_; intro gb257 hg w61 hbox hb; replace HO_6 := m0 (Kd.V_below (Kd.V_elderB (by (with_reducible repeat (first | apply Kd.V_alloc | apply Kd.V_drewN | apply Kd.V_drew)); exact HO_6.out) gb257 (Nat.le_of_eq hg.symm)) hb); replace HO_8 := m0 (Kd.R_below (Kd.R_elderB (br HO_8.out) gb257 (Nat.le_of_eq hg.symm)) hb); replace HO_31 := m0 (Kd.V_below (Kd.V_elderB (by (with_reducible repeat (first | apply Kd.V_alloc | apply Kd.V_drewN | apply Kd.V_drew)); exact HO_31.out) gb257 (Nat.le_of_eq hg.symm)) hb); have BK257 := m0 hbox; have GW257 := m0 (bg (n := w.heap.size) hg); have GE257 := m0 (bg (n := w.heap.size) hg); replace HB := sb HB hb; have NB244_257 := nl BK244 hg; have NB257_244 := ng (nl BK244 hg); replace BK244 := bb BK244 hb; clear hb hbox hg; have hnb62 := NB257_244.out; have hnc62 := NB244_257.out; obtain ⟨_, _⟩ := b1 BK257))
             have n0_ : Aside0 (Kd.V (Kd.int .i64) 3 (w61.setCell ⟨gb257, 0, none⟩ (.int .i64 (rd t245 x33_1))) w.heap.size (fun k_ => some k_ ≠ (u8 : Value).ownBlock ∧ k_ ≠ gb244 ∧ k_ ≠ gb257) (.slice (some ad256) t245.length co15) t245) := ⟨by (with_reducible repeat (first | apply Kd.V_alloc | apply Kd.V_drewN | apply Kd.V_drew)); exact Kd.V_mono (Kd.V_far (p := ⟨gb257, 0, none⟩) (Kd.V_mono HO_6.out (fun k_ hk => (⟨hk, hk.2⟩ : _ ∧ k_ ≠ gb257))) (fun _ hk => hk.2) (.int .i64 (rd t245 x33_1))) (fun _ hk => ⟨hk.1.1.1, ⟨hk.1.1.2, hk.1.2⟩⟩)⟩
             have n1_ : Aside0 (Kd.R (Kd.int .i64) 3 (w61.setCell ⟨gb257, 0, none⟩ (.int .i64 (rd t245 x33_1))) w.heap.size (fun k_ => k_ ≠ gb257) u8 x8_1) := ⟨by (with_reducible repeat (first | apply Kd.R_alloc | apply Kd.R_drewN | apply Kd.R_drew)); exact Kd.R_mono (Kd.R_far (p := ⟨gb257, 0, none⟩) (Kd.R_mono HO_8.out (fun k_ hk => (⟨hk, hk.2⟩ : _ ∧ k_ ≠ gb257))) (fun _ hk => hk.2) (.int .i64 (rd t245 x33_1))) (fun _ hk => hk.1.2)⟩
             have n2_ : Aside0 (Kd.V (Kd.int .i64) 3 (w61.setCell ⟨gb257, 0, none⟩ (.int .i64 (rd t245 x33_1))) w.heap.size (fun k_ => some k_ ≠ (u8 : Value).ownBlock ∧ k_ ≠ gb244 ∧ k_ ≠ gb257) (.slice (some ad256) t245.length co15) t245) := ⟨by (with_reducible repeat (first | apply Kd.V_alloc | apply Kd.V_drewN | apply Kd.V_drew)); exact Kd.V_mono (Kd.V_far (p := ⟨gb257, 0, none⟩) (Kd.V_mono HO_31.out (fun k_ hk => (⟨hk, hk.2⟩ : _ ∧ k_ ≠ gb257))) (fun _ hk => hk.2) (.int .i64 (rd t245 x33_1))) (fun _ hk => ⟨hk.1.1.1, ⟨hk.1.1.2, hk.1.2⟩⟩)⟩
             have n3_ : Aside0 ((w61.setCell ⟨gb257, 0, none⟩ (.int .i64 (rd t245 x33_1))).heap[gb244]? = some (.cells #[.int .i64 a1_0, .int .i64 a1_1] 57 (0, 0))) := ⟨bq BK244.out⟩
             have n4_ : Aside0 ((w61.setCell ⟨gb257, 0, none⟩ (.int .i64 (rd t245 x33_1))).heap[gb257]? = some (.cells #[.int .i64 (rd t245 x33_1)] 3 (0, 0))) := ⟨bq BK257.out⟩
             have n5_ : Aside0 (Below w.heap.size w (w61.setCell ⟨gb257, 0, none⟩ (.int .i64 (rd t245 x33_1)))) := ⟨bz⟩
             (try clear HO_6)
             (try clear HO_8)
             (try clear HO_31)
             (try clear BK244)
             (try clear BK257)
             (try clear HB)
             generalize (w61.setCell ⟨gb257, 0, none⟩ (.int .i64 (rd t245 x33_1))) = w64 at n0_ n1_ n2_ n3_ n4_ n5_ ⊢
             have HO_6 := n0_
             have HO_8 := n1_
             have HO_31 := n2_
             have BK244 := n3_
             have BK257 := n4_
             have HB := n5_
             clear n0_ n1_ n2_ n3_ n4_ n5_
             replace HO_6 := m0 (Kd.V_drew HO_6.out); replace HO_8 := m0 (Kd.R_drew HO_8.out); replace HO_31 := m0 (Kd.V_drew HO_31.out); replace BK244 := bd BK244; replace BK257 := bd BK257; replace HB := sd HB
             have q66 : (x33_1 : Int) ≤ ((t245.length : Int) : Int) := of_decide_eq_true (by first | (with_reducible assumption) | assumption)
             obtain ⟨i066, hi066, _, hsz66, _⟩ := info_parts info3
             have hroom66 : t245.length ≤ co15 := (Kd.V_reads' HO_6.out).2.1
             have hC66 : Kd.F (Kd.int .i64) _ _ (some ad256) t245.length t245 := (Kd.V_at (base := w.heap.size) HO_6.out).2.2
             have ql66 : ((ji19) : Int) ≤ (x33_1 : Int) := of_decide_eq_true (by first | (with_reducible assumption) | assumption)
             have q066 : (0 : Int) ≤ ((ji19) : Int) := of_decide_eq_true (by first | (with_reducible assumption) | assumption)
             have hcut66 := cut_mid (P := Tryd.prog) 120 3 .i64 .i64 Tryd.underlying120 hi066 1 hsz66 (some ad256) t245.length co15 (ji19) x33_1 q066 ql66 q66 hroom66
             have hr66 := Kd.F_mid (lo := ((ji19) : Int).toNat) (hi := (x33_1 : Int).toNat) (c := co15) hC66 (by omega) (by omega) hroom66
             obtain ⟨A66, hA66⟩ : ∃ A1, A1 = (if co15 = ((ji19) : Int).toNat then (some ad256) else ((some ad256) : Option Addr).map (·.add (((ji19) : Int).toNat * 1))) := ⟨_, rfl⟩
             obtain ⟨c66, hc66⟩ : ∃ c1, c1 = co15 - ((ji19) : Int).toNat := ⟨_, rfl⟩
             have hy66 : y258.length = (x33_1 : Int).toNat - ((ji19) : Int).toNat := (by rw [Ny258.out, List.length_drop, List.length_take] <;> omega)
             rw [show ((t245).take (x33_1 : Int).toNat).drop ((ji19) : Int).toNat = y258 from Ny258.out.symm] at hr66
             replace hr66 : Kd.F (Kd.int .i64) _ _ A66 y258.length y258 := (by rw [hA66]; exact hr66)
             rw [← hy66, ← hA66, ← hc66] at hcut66
             have HO262 := m0 (show Kd.V (Kd.int .i64) 3 _ w.heap.size _ (.slice A66 y258.length c66) y258 from Kd.V_mk (by rw [hy66, hc66]; exact Nat.sub_le_sub_right (Nat.le_trans (by omega) hroom66) _) hr66)
             have HC262 := m0 (show y258.length ≤ c66 from by rw [hy66, hc66]; exact Nat.sub_le_sub_right (Nat.le_trans (by omega) hroom66) _)
             clear hr66 hC66 hroom66 hi066 hsz66 hc66
             have KY66 := m0 hy66
             have KA66 := m0 hA66
             clear hy66 hA66
             replace q66 := eq_true q66
             have q67 : ((ji23) : Int) ≤ ((t245.length : Int) : Int) := of_decide_eq_true (by first | (with_reducible assumption) | assumption)
             obtain ⟨i067, hi067, _, hsz67, _⟩ := info_parts info3
             have hroom67 : t245.length ≤ co15 := (Kd.V_reads' HO_6.out).2.1
             have hC67 : Kd.F (Kd.int .i64) _ _ (some ad256) t245.length t245 := (Kd.V_at (base := w.heap.size) HO_6.out).2.2
             have ql67 : (x33_1 : Int) ≤ ((ji23) : Int) := of_decide_eq_true (by first | (with_reducible assumption) | assumption)
             have q067 : (0 : Int) ≤ (x33_1 : Int) := of_decide_eq_true (by first | (with_reducible assumption) | assumption)
             have hcut67 := cut_mid (P := Tryd.prog) 120 3 .i64 .i64 Tryd.underlying120 hi067 1 hsz67 (some ad256) t245.length co15 x33_1 (ji23) q067 ql67 q67 hroom67
             have hr67 := Kd.F_mid (lo := (x33_1 : Int).toNat) (hi := ((ji23) : Int).toNat) (c := co15) hC67 (by omega) (by omega) hroom67
             obtain ⟨A67, hA67⟩ : ∃ A1, A1 = (if co15 = (x33_1 : Int).toNat then (some ad256) else ((some ad256) : Option Addr).map (·.add ((x33_1 : Int).toNat * 1))) := ⟨_, rfl⟩
             obtain ⟨c67, hc67⟩ : ∃ c1, c1 = co15 - (x33_1 : Int).toNat := ⟨_, rfl⟩
             have hy67 : y263.length = ((ji23) : Int).toNat - (x33_1 : Int).toNat := (by rw [Ny263.out, List.length_drop, List.length_take] <;> omega)
             rw [show ((t245).take ((ji23) : Int).toNat).drop (x33_1 : Int).toNat = y263 from Ny263.out.symm] at hr67
             replace hr67 : Kd.F (Kd.int .i64) _ _ A67 y263.length y263 := (by rw [hA67]; exact hr67)
             rw [← hy67, ← hA67, ← hc67] at hcut67
             have HO267 := m0 (show Kd.V (Kd.int .i64) 3 _ w.heap.size _ (.slice A67 y263.length c67) y263 from Kd.V_mk (by rw [hy67, hc67]; exact Nat.sub_le_sub_right (Nat.le_trans (by omega) hroom67) _) hr67)
             have HC267 := m0 (show y263.length ≤ c67 from by rw [hy67, hc67]; exact Nat.sub_le_sub_right (Nat.le_trans (by omega) hroom67) _)
             clear hr67 hC67 hroom67 hi067 hsz67 hc67
             have KY67 := m0 hy67
             have KA67 := m0 hA67
             clear hy67 hA67
             replace q67 := eq_true q67
             refine start_ (n := 21) (S := fun w' => w'.cell? ⟨gb244, 0, none⟩ = some (.int .i64 a1_0) ∧ w'.cell? ⟨gb244, 1, none⟩ = some (.int .i64 a1_1)) (ds := []) #[false, false, false, false, false, false, false, false, false, false, false, false, false, false, false, false, false, false, false, false, false] (by kernel_rfl) rfl rfl cz (fun hHeld => ?_); refine with_tabW line_DetectionsIn.tab9 line_DetectionsIn.bits9 (fun HT_ HW_ => ?_)
             generalize w64.drew = w65 at HO_6 HO_8 HO_31 BK244 BK257 HB HO262 HO267 hHeld ⊢
             refine pureZ (i := 0) (N := some 38) (bs 21 1) HT_ ?_
             refine pureZ (i := 1) (N := some 39) (bs 21 3) HT_ ?_
             refine pureZ (i := 2) (N := some 40) (bs 21 7) HT_ ?_
             refine pureZ (i := 6) (N := some 44) (bs 21 71) HT_ ?_
             refine pureZ (i := 8) (N := some 46) (bs 21 327) HT_ ?_
             refine pureZ (i := 9) (N := some 47) (bs 21 839) HT_ ?_
             refine pureZ (i := 10) (N := some 48) (bs 21 1863) HT_ ?_
             refine pureZ (i := 11) (N := some 49) (bs 21 3911) HT_ ?_
             refine pureZ (i := 12) (N := some 50) (bs 21 8007) HT_ ?_
             refine pureZ (i := 13) (N := some 51) (bs 21 16199) HT_ ?_
             refine takeZ 3 (some 41) (bs 21 16207) (take_ofW HT_.out HW_.out (by kernel_rfl)) hHeld ?_
             refine pureZ (i := 4) (N := some 42) (bs 21 16223) HT_ ?_
             refine pureZ (i := 5) (N := some 43) (bs 21 16255) HT_ ?_
             refine pureZ (i := 7) (N := some 45) (bs 21 16383) HT_ ?_
             refine pureZ (i := 19) (N := some 11) (bs 21 540671) HT_ ?_
             refine takeZ 14 (some 52) (bs 21 557055) (take_ofW HT_.out HW_.out (by kernel_rfl)) hHeld ?_
             refine pureZ (i := 15) (N := some 53) (bs 21 589823) HT_ ?_
             refine pureZ (i := 16) (N := some 54) (bs 21 655359) HT_ ?_
             refine pureZ (i := 17) (N := some 55) (bs 21 786431) HT_ ?_
             refine pureZ (i := 18) (N := some 56) (bs 21 1048575) HT_ ?_
             refine pureZ (i := 20) (N := some 12) (bs 21 2097151) HT_ ?_
             refine done_ (done_of HT_.out (by kernel_rfl)) ?_
             try go_wp2
             replace HO_6 := m0 (Kd.V_drew HO_6.out); replace HO_8 := m0 (Kd.R_drew HO_8.out); replace HO_31 := m0 (Kd.V_drew HO_31.out); replace HO262 := m0 (Kd.V_drew HO262.out); replace HO267 := m0 (Kd.V_drew HO267.out); replace BK244 := bd BK244; replace BK257 := bd BK257; replace HB := sd HB
             refine start_ (n := 16) (S := fun w' => w'.cell? ⟨gb257, 0, none⟩ = some (.int .i64 (rd t245 x33_1)) ∧ w'.cell? ⟨gb244, 0, none⟩ = some (.int .i64 a1_0) ∧ w'.cell? ⟨gb244, 1, none⟩ = some (.int .i64 a1_1)) (ds := []) #[false, false, false, false, false, false, false, false, false, false, false, false, false, false, false, false] (by kernel_rfl) rfl rfl cz (fun hHeld => ?_); refine with_tabW line_DetectionsIn.tab10 line_DetectionsIn.bits10 (fun HT_ HW_ => ?_)
             generalize w65.drew = w68 at HO_6 HO_8 HO_31 HO262 HO267 BK244 BK257 HB hHeld ⊢
             refine pureZ (i := 1) (N := some 58) (bs 16 2) HT_ ?_
             refine takeZ 0 (some 57) (bs 16 3) (take_ofW HT_.out HW_.out (by kernel_rfl)) hHeld ?_
             refine takeZ 2 (some 59) (bs 16 7) (take_ofW HT_.out HW_.out (by kernel_rfl)) hHeld ?_
             refine pureZ (i := 3) (N := some 60) (bs 16 15) HT_ ?_
             refine pureZ (i := 4) (N := some 61) (bs 16 31) HT_ ?_
             refine pure_ (i := 5) (N := some 62) (v := undef) (a' := ?_) (bs 16 63) rfl rfl (any_of HT_.out (by kernel_rfl)) (fun _ _ _ h => h) (Or.inr ⟨by rfl, rfl⟩) ?_ ?_
             rotate_left
             ·exact pz
             refine pure_ (i := 6) (N := some 63) (v := undef) (a' := ?_) (bs 16 127) rfl rfl (any_of HT_.out (by kernel_rfl)) (fun _ _ _ h => h) (Or.inr ⟨by rfl, rfl⟩) ?_ ?_
             rotate_left
             ·exact pz
             refine pure_ (i := 7) (N := some 64) (v := undef) (a' := ?_) (bs 16 255) rfl rfl (any_of HT_.out (by kernel_rfl)) (fun _ _ _ h => h) (Or.inr ⟨by rfl, rfl⟩) ?_ ?_
             rotate_left
             ·exact pz
             refine pure_ (i := 8) (N := some 65) (v := undef) (a' := ?_) (bs 16 511) rfl rfl (any_of HT_.out (by kernel_rfl)) (fun _ _ _ h => h) (Or.inr ⟨by rfl, rfl⟩) ?_ ?_
             rotate_left
             ·exact pz
             refine pureZ (i := 9) (N := some 66) (bs 16 1023) HT_ ?_
             refine pureZ (i := 10) (N := some 67) (bs 16 2047) HT_ ?_
             refine pure_ (i := 11) (N := some 68) (v := undef) (a' := ?_) (bs 16 4095) rfl rfl (any_of HT_.out (by kernel_rfl)) (fun _ _ _ h => h) (Or.inr ⟨by rfl, rfl⟩) ?_ ?_
             rotate_left
             ·exact pz
             refine pure_ (i := 12) (N := some 69) (v := undef) (a' := ?_) (bs 16 8191) rfl rfl (any_of HT_.out (by kernel_rfl)) (fun _ _ _ h => h) (Or.inr ⟨by rfl, rfl⟩) ?_ ?_
             rotate_left
             ·exact pz
             refine pure_ (i := 13) (N := some 70) (v := undef) (a' := ?_) (bs 16 16383) rfl rfl (any_of HT_.out (by kernel_rfl)) (fun _ _ _ h => h) (Or.inr ⟨by rfl, rfl⟩) ?_ ?_
             rotate_left
             ·exact pz
             refine pure_ (i := 14) (N := some 71) (v := undef) (a' := ?_) (bs 16 32767) rfl rfl (any_of HT_.out (by kernel_rfl)) (fun _ _ _ h => h) (Or.inr ⟨by rfl, rfl⟩) ?_ ?_
             rotate_left
             ·exact pz
             refine pureZ (i := 15) (N := some 72) (bs 16 65535) HT_ ?_
             refine done_ (done_of HT_.out (by kernel_rfl)) ?_
             try go_wp2
             go_roundg k1
             case measure => have := HK1.out; omega
             case rel => exact ⟨(x8_1), (wrap64 (x33_1 + 1)), (by first | rfl | (simp; done) | (simp [*]; done)), H', ⟨by have := HK1.out; omega⟩, ⟨by (with_reducible repeat (first | apply Kd.V_alloc | apply Kd.V_drewN | apply Kd.V_drew)); exact Kd.V_mono HO_6.out (fun _ hk => ⟨hk.1, hk.2.1⟩)⟩, ⟨by (with_reducible repeat (first | apply Kd.R_alloc | apply Kd.R_drewN | apply Kd.R_drew)); exact Kd.R_mono HO_8.out (fun _ hk => trivial)⟩, ⟨by (with_reducible repeat (first | apply Kd.V_alloc | apply Kd.V_drewN | apply Kd.V_drew)); exact Kd.V_mono HO_31.out (fun _ hk => ⟨hk.1, hk.2.1⟩)⟩, ⟨bk BK244.out⟩, ⟨bz⟩⟩
           ·rw [if_neg c26] at H
            exact absurd H (by simp)
          ·rw [if_neg c25] at H
           exact absurd H (by simp)
         ·rw [if_neg c22] at H
          exact absurd H (by simp)
        ·rw [if_neg c21] at H
         exact absurd H (by simp)
       ·rw [if_neg c20] at H
        exact absurd H (by simp)
      ·rw [if_neg c18] at H
       exact absurd H (by simp)
     ·rw [if_neg c17] at H
      exact absurd H (by simp)
    ·rw [if_neg c16] at H
     have c16b0 := decide_eq_false c16
     clear c16
     simp only [Option.some.injEq, Prod.mk.injEq] at H
     obtain ⟨rfl, rfl⟩ := H
     go_wp2
     go_ret2
     exact ⟨_, by first | rfl | (simp [errW_none, errW_some] <;> rfl) | (simp [*, errW_none, errW_some] <;> rfl), by (with_reducible repeat (first | apply Kd.R_alloc | apply Kd.R_drewN | apply Kd.R_drew)); exact HO_8.out, by repeat (first | (with_reducible first | exact HB.out | apply below_alloc | apply pw_below_drewN | apply below_drew1 | refine below_set ?_ GE244.out) | exact HB.out)⟩
 ·rw [if_neg c8] at H
  have c8b0 := beq_eq_false_iff_ne.mpr c8
  have c8b1 := bne_iff_ne.mpr c8
  simp only [Option.some.injEq, Prod.mk.injEq] at H
  obtain ⟨rfl, rfl⟩ := H
  go_enter Tryd.func43, Tryd.ntmps43
  try go_wp2_with (first | ((with_reducible refine gate_dst (N := 3) rfl ?_); refine be 3 57 #[.int .i64 a1_0, .int .i64 a1_1] ?_; intro gb244 hg w69 hbox hb; have BK244 := m0 hbox; have GW244 := m0 (bg (n := w.heap.size) hg); have GE244 := m0 (bg (n := w.heap.size) hg); replace HB := sb HB hb; clear hb hbox hg) | ((with_reducible refine gate_callee (f := 102) rfl ?_); refine gl (some 15) Tryd.func102 #[.slice A0 l0.length c0] ?_; (with_reducible refine (line_open.calls (fun k_ => k_ < w.heap.size) _ _ l0 t245 t248 _ ?side1 A3.out).mono ?_); (case side1 => exact Kd.V_mk HC0.out (Kd.F_below (Kd.C_F (Kd.heap_int .i64) HR0.out) bz)); rintro e w70 ⟨v246, rfl, ho0, hb⟩; refine ⟨_, rfl, ?_⟩; have HO247 := m0 (Kd.V_lower (Kd.V_mono (ok' := fun k_ => k_ ≠ gb244) ho0 (fun k_ hk_ => Or.elim hk_ (fun hs_ => fun e_ => Nat.not_le.2 hs_ (by rw [e_]; exact GW244.out)) (fun hn_ => (Kd.freshB (g := gb244) (o := .cells #[.int .i64 a1_0, .int .i64 a1_1] 57 (0, 0)) (bk BK244.out) k_ hn_)))) (below_size bz)); replace BK244 := bb BK244 hb; replace HB := sb HB hb; (try clear hb); (try clear ho0)))
  replace HO247 := m0 (Kd.V_drew HO247.out); replace BK244 := bd BK244; replace HB := sd HB
  refine start_ (n := 11) (S := fun w' => w'.cell? ⟨gb244, 0, none⟩ = some (.int .i64 a1_0) ∧ w'.cell? ⟨gb244, 1, none⟩ = some (.int .i64 a1_1)) (ds := []) #[false, false, false, false, false, false, false, false, false, false, false] (by kernel_rfl) rfl rfl cz (fun hHeld => ?_); refine with_tabW line_DetectionsIn.tab2 line_DetectionsIn.bits2 (fun HT_ HW_ => ?_)
  generalize w70.drew = w71 at HO247 BK244 HB hHeld ⊢
  refine pureZ (i := 0) (N := some 18) #[true, false, false, false, false, false, false, false, false, false, false] HT_ ?_
  refine pureZ (i := 1) (N := some 19) #[true, true, false, false, false, false, false, false, false, false, false] HT_ ?_
  refine pureZ (i := 4) (N := some 22) #[true, true, false, false, true, false, false, false, false, false, false] HT_ ?_
  refine takeZ 2 (some 20) #[true, true, true, false, true, false, false, false, false, false, false] (take_ofW HT_.out HW_.out (by kernel_rfl)) hHeld ?_
  refine takeZ 5 (some 23) #[true, true, true, false, true, true, false, false, false, false, false] (take_ofW HT_.out HW_.out (by kernel_rfl)) hHeld ?_
  refine oneZ 3 (some 21) #[true, true, true, true, true, true, false, false, false, false, false] (one_of HT_.out (by kernel_rfl)) fun K hK => ?_
  refine goes_ Tryd.func100 (by kernel_rfl) rfl #[.int .i64 a1_0] (by rfl) rfl rfl mz ?_
  with_reducible refine (line_thresholdErr.calls a1_0 t249 _ A4.out).mono ?_
  rintro e w' ⟨rfl, ⟨nd, rfl⟩⟩
  refine ⟨_, rfl, ?_⟩
  refine hK.out _ _ cz (fun hHeld => ?_)
  clear hK K
  refine norm_ (a' := ?_) ?_ ?_
  rotate_left
  ·show Act.put _ (some 21) _ = _
   exact pz
  refine oneZ 6 (some 24) #[true, true, true, true, true, true, true, false, false, false, false] (one_of HT_.out (by kernel_rfl)) fun K hK => ?_
  refine goes_ Tryd.func105 (by kernel_rfl) rfl #[.int .i64 a1_1, .int .i64 0, .int .i64 16] (by rfl) rfl rfl mz ?_
  with_reducible refine (line_within.calls a1_1 0 16 t250 _ A5.out).mono ?_
  rintro e w' ⟨rfl, ⟨nd, rfl⟩⟩
  refine ⟨_, rfl, ?_⟩
  refine hK.out _ _ cz (fun hHeld => ?_)
  clear hK K
  refine norm_ (a' := ?_) ?_ ?_
  rotate_left
  ·show Act.put _ (some 24) _ = _
   exact pz
  refine oneZ 7 (some 25) #[true, true, true, true, true, true, true, true, false, false, false] (one_of HT_.out (by kernel_rfl)) fun K hK => ?_
  refine goes_ Tryd.func93 (by kernel_rfl) rfl #[.bool t250, .int .i64 2] (by rfl) rfl rfl mz ?_
  with_reducible refine (line_unless.calls t250 2 t251 _ A6.out).mono ?_
  rintro e w' ⟨rfl, ⟨nd, rfl⟩⟩
  refine ⟨_, rfl, ?_⟩
  refine hK.out _ _ cz (fun hHeld => ?_)
  clear hK K
  refine norm_ (a' := ?_) ?_ ?_
  rotate_left
  ·show Act.put _ (some 25) _ = _
   exact pz
  refine oneZ 8 (some 26) #[true, true, true, true, true, true, true, true, true, false, false] (one_of HT_.out (by kernel_rfl)) fun K hK => ?_
  refine Kd.R_lit_step (Kd.int .i64) _ 31 ?hg (N := 26) ?hd (xs := ([t248, t249, t251] : List Int)) (inner := [.int .i64 t248, .int .i64 t249, .int .i64 t251]) (ok := fun _ => True) (okp := fun _ => True) ?hr ?hp (fun _ hk => hk) trivial (Below.refl _ _) (Nat.le_refl _) (by simp) ?_; (case hd => rfl); (case hg => rfl); (case hr => first | (go_simp; done) | (go_simp; rfl)); (case hp => exact (Reps.one (show Kd.M (Kd.int .i64) _ _ _ t248 [.int .i64 t248] from rfl) (Reps.one (show Kd.M (Kd.int .i64) _ _ _ t249 [.int .i64 t249] from rfl) (Reps.one (show Kd.M (Kd.int .i64) _ _ _ t251 [.int .i64 t251] from rfl) (Reps.none _ _)))))
  intro v253 w72 ho73 hb hg_ hnew_
  clear hg_ hnew_
  (first | rw [← Ny252.out] at ho73 | (simp only [Int.reduceToNat] at ho73; rw [← Ny252.out] at ho73))
  replace HO247 := m0 (Kd.V_elder' (by (with_reducible repeat (first | apply Kd.V_alloc | apply Kd.V_drewN | apply Kd.V_drew)); exact HO247.out) (Kd.R_base ho73) hb); have HO254 := m0 (Kd.R_lower ho73 (below_size bz)); replace BK244 := bb BK244 hb; replace HB := sb HB hb
  clear hb ho73
  obtain ⟨Ao74, co74, eo74⟩ := Kd.R_slice HO254.out
  (first | subst eo74 | (injection eo74 with f1_ f2_ f3_; have f4_ := f1_.symm; have f5_ := f3_.symm; clear f1_ f2_ f3_; subst f4_; subst f5_))
  refine hK.out _ _ cz (fun hHeld => ?_)
  clear hK K
  refine norm_ (a' := ?_) ?_ ?_
  rotate_left
  ·show Act.put _ (some 26) _ = _
   exact pz
  refine oneZ 9 (some 27) #[true, true, true, true, true, true, true, true, true, true, false] (one_of HT_.out (by kernel_rfl)) fun K hK => ?_
  refine goes_ Tryd.func91 (by kernel_rfl) rfl #[.slice Ao74 y252.length co74] (by rfl) rfl rfl mz ?_
  with_reducible refine (line_first.calls k _ _ y252 t255 _ ?side1 ?side2 A7.out).mono ?_
  (case side1 => exact bc (Kd.R_reads' HO254.out).2.2)
  (case side2 => exact (Kd.R_reads' HO254.out).2.1)
  rintro e w' ⟨rfl, ⟨nd, rfl⟩⟩
  refine ⟨_, rfl, ?_⟩
  refine hK.out _ _ cz (fun hHeld => ?_)
  clear hK K
  refine norm_ (a' := ?_) ?_ ?_
  rotate_left
  ·show Act.put _ (some 27) _ = _
   exact pz
  refine pureZ (i := 10) (N := some 7) #[true, true, true, true, true, true, true, true, true, true, true] HT_ ?_
  refine done_ (done_of HT_.out (by kernel_rfl)) ?_
  try go_wp2
  go_ret2
  exact ⟨_, by first | rfl | (simp [errW_none, errW_some] <;> rfl) | (simp [*, errW_none, errW_some] <;> rfl), by first | exact Kd.R_nil _ _ _ _ _ | exact Kd.N_nil _ _ _ _ _ | exact Kd.V_nil _ _ _ _ _ | exact Kd.Q_nil _ _ _ _ _ | exact Kd.S_nil _ _ _ _ _, by repeat (first | (with_reducible first | exact HB.out | apply below_alloc | apply pw_below_drewN | apply below_drew1 | refine below_set ?_ GE244.out) | exact HB.out)⟩
end
section
def line_scaleErr_1.f (a0 : Int) : Option (Bool) := (line_within.f a0 1 10000).bind fun t273 => (some t273)
theorem line_scaleErr_1.calls (a0 : Int) (r : Bool) (w : World) (h : line_scaleErr_1.f a0 = some r) :
  Calls Tryd.prog 134 #[.int .i64 a0] w fun e w' => e = .returned (.bool r) ∧ Drawn0 w w' := by
 have H : ((line_within.f a0 1 10000).bind fun t273 => (some t273)) = some r := h
 clear h
 replace H := ob H
 obtain ⟨t273, A20, H⟩ := H
 (try dsimp only at H)
 have A2 := m0 A20
 clear A20
 obtain rfl := Option.some.inj H
 go_enter Tryd.func134, Tryd.ntmps134
 go_wp2_with (first | ((with_reducible refine gate_callee (f := 105) rfl ?_); refine gl (some 4) Tryd.func105 #[.int .i64 a0, .int .i64 1, .int .i64 10000] ?_; (with_reducible refine (line_within.calls a0 1 10000 t273 _ A2.out).mono ?_); rintro e w' ⟨rfl, ⟨nd, rfl⟩⟩; refine ⟨_, rfl, ?_⟩))
 go_ret
 exact ⟨by first | rfl | (simp; done) | (simp [*]; done), by repeat (first | exact Drawn0.refl _ | apply Drawn0.step)⟩
end
section
def line_scaleErr.f (a0_0 : Int) (a0_1 : Int) (a0_2 : Int) : Option (Int) := (line_within.f a0_0 0 15).bind fun t275 => (if t275 = true then ((line_scaleErr_1.f a0_1).bind fun t276 => (if t276 = true then ((line_scaleErr_1.f a0_2).bind fun t277 => ((line_unless.f t277 2).bind fun t278 => (some t278))) else ((line_unless.f false 2).bind fun t279 => (some t279)))) else ((line_unless.f false 2).bind fun t280 => (some t280)))
theorem line_scaleErr.calls (a0_0 : Int) (a0_1 : Int) (a0_2 : Int) (r : Int) (w : World) (h : line_scaleErr.f a0_0 a0_1 a0_2 = some r) :
  Calls Tryd.prog 110 #[.agg #[.int .i64 a0_0, .int .i64 a0_1, .int .i64 a0_2]] w fun e w' => e = .returned (.int .i64 r) ∧ Below w.heap.size w w' := by
 have hu63 := Tryd.underlying63
 have HB := m0 (Below.refl w.heap.size w)
 have H : ((line_within.f a0_0 0 15).bind fun t275 => (if t275 = true then ((line_scaleErr_1.f a0_1).bind fun t276 => (if t276 = true then ((line_scaleErr_1.f a0_2).bind fun t277 => ((line_unless.f t277 2).bind fun t278 => (some t278))) else ((line_unless.f false 2).bind fun t279 => (some t279)))) else ((line_unless.f false 2).bind fun t280 => (some t280)))) = some r := h
 clear h
 replace H := ob H
 obtain ⟨t275, A20, H⟩ := H
 (try dsimp only at H)
 have A2 := m0 A20
 clear A20
 by_cases c3 : t275 = true
 ·subst c3
  rw [if_pos rfl] at H
  replace H := ob H
  obtain ⟨t276, A40, H⟩ := H
  (try dsimp only at H)
  have A4 := m0 A40
  clear A40
  by_cases c5 : t276 = true
  ·subst c5
   rw [if_pos rfl] at H
   replace H := ob H
   obtain ⟨t277, A60, H⟩ := H
   (try dsimp only at H)
   have A6 := m0 A60
   clear A60
   replace H := ob H
   obtain ⟨t278, A70, H⟩ := H
   (try dsimp only at H)
   have A7 := m0 A70
   clear A70
   obtain rfl := Option.some.inj H
   go_enter Tryd.func110, Tryd.ntmps110
   go_wp2_with (first | ((with_reducible refine gate_dst (N := 1) rfl ?_); refine be 1 63 #[.int .i64 a0_0, .int .i64 a0_1, .int .i64 a0_2] ?_; intro gb274 hg w8 hbox hb; have BK274 := m0 hbox; have GW274 := m0 (bg (n := w.heap.size) hg); have GE274 := m0 (bg (n := w.heap.size) hg); replace HB := sb HB hb; clear hb hbox hg; obtain ⟨_, _, _, _, _, _⟩ := b3 BK274) | ((with_reducible refine gate_callee (f := 105) rfl ?_); refine gl (some 6) Tryd.func105 #[.int .i64 a0_0, .int .i64 0, .int .i64 15] ?_; (with_reducible refine (line_within.calls a0_0 0 15 true _ A2.out).mono ?_); rintro e w' ⟨rfl, ⟨nd, rfl⟩⟩; refine ⟨_, rfl, ?_⟩) | (go_at_call 134; (with_reducible refine (line_scaleErr_1.calls a0_1 true _ A4.out).mono ?_); rintro e w' ⟨rfl, ⟨nd, rfl⟩⟩) | (go_at_call 134; (with_reducible refine (line_scaleErr_1.calls a0_2 t277 _ A6.out).mono ?_); rintro e w' ⟨rfl, ⟨nd, rfl⟩⟩) | ((with_reducible refine gate_callee (f := 93) rfl ?_); refine gl (some 19) Tryd.func93 #[.bool t277, .int .i64 2] ?_; (with_reducible refine (line_unless.calls t277 2 t278 _ A7.out).mono ?_); rintro e w' ⟨rfl, ⟨nd, rfl⟩⟩; refine ⟨_, rfl, ?_⟩))
   go_ret
   exact ez
  ·replace c5 := Bool.eq_false_iff.mpr c5
   subst c5
   rw [if_neg (show ¬ (false = true) by decide)] at H
   replace H := ob H
   obtain ⟨t279, A100, H⟩ := H
   (try dsimp only at H)
   have A10 := m0 A100
   clear A100
   obtain rfl := Option.some.inj H
   go_enter Tryd.func110, Tryd.ntmps110
   go_wp2_with (first | ((with_reducible refine gate_dst (N := 1) rfl ?_); refine be 1 63 #[.int .i64 a0_0, .int .i64 a0_1, .int .i64 a0_2] ?_; intro gb274 hg w11 hbox hb; have BK274 := m0 hbox; have GW274 := m0 (bg (n := w.heap.size) hg); have GE274 := m0 (bg (n := w.heap.size) hg); replace HB := sb HB hb; clear hb hbox hg; obtain ⟨_, _, _, _, _, _⟩ := b3 BK274) | ((with_reducible refine gate_callee (f := 105) rfl ?_); refine gl (some 6) Tryd.func105 #[.int .i64 a0_0, .int .i64 0, .int .i64 15] ?_; (with_reducible refine (line_within.calls a0_0 0 15 true _ A2.out).mono ?_); rintro e w' ⟨rfl, ⟨nd, rfl⟩⟩; refine ⟨_, rfl, ?_⟩) | (go_at_call 134; (with_reducible refine (line_scaleErr_1.calls a0_1 false _ A4.out).mono ?_); rintro e w' ⟨rfl, ⟨nd, rfl⟩⟩) | ((with_reducible refine gate_callee (f := 93) rfl ?_); refine gl (some 19) Tryd.func93 #[.bool false, .int .i64 2] ?_; (with_reducible refine (line_unless.calls false 2 t279 _ A10.out).mono ?_); rintro e w' ⟨rfl, ⟨nd, rfl⟩⟩; refine ⟨_, rfl, ?_⟩))
   go_ret
   exact ez
 ·replace c3 := Bool.eq_false_iff.mpr c3
  subst c3
  rw [if_neg (show ¬ (false = true) by decide)] at H
  replace H := ob H
  obtain ⟨t280, A130, H⟩ := H
  (try dsimp only at H)
  have A13 := m0 A130
  clear A130
  obtain rfl := Option.some.inj H
  go_enter Tryd.func110, Tryd.ntmps110
  go_wp2_with (first | ((with_reducible refine gate_dst (N := 1) rfl ?_); refine be 1 63 #[.int .i64 a0_0, .int .i64 a0_1, .int .i64 a0_2] ?_; intro gb274 hg w14 hbox hb; have BK274 := m0 hbox; have GW274 := m0 (bg (n := w.heap.size) hg); have GE274 := m0 (bg (n := w.heap.size) hg); replace HB := sb HB hb; clear hb hbox hg; obtain ⟨_, _, _, _, _, _⟩ := b3 BK274) | ((with_reducible refine gate_callee (f := 105) rfl ?_); refine gl (some 6) Tryd.func105 #[.int .i64 a0_0, .int .i64 0, .int .i64 15] ?_; (with_reducible refine (line_within.calls a0_0 0 15 false _ A2.out).mono ?_); rintro e w' ⟨rfl, ⟨nd, rfl⟩⟩; refine ⟨_, rfl, ?_⟩) | ((with_reducible refine gate_callee (f := 93) rfl ?_); refine gl (some 19) Tryd.func93 #[.bool false, .int .i64 2] ?_; (with_reducible refine (line_unless.calls false 2 t280 _ A13.out).mono ?_); rintro e w' ⟨rfl, ⟨nd, rfl⟩⟩; refine ⟨_, rfl, ?_⟩))
  go_ret
  exact ez
end
end Go.Proofs.YtjnkphmcndaijaaDoor.A
