/- Walks of the program's functions (printed, made shorter), each with what it computes. -/
import Derived.Test.YtjnkphmcndaijaaDoorSpd04
import Derived.Test.YtjnkphmcndaijaaDoorSpd07
import Derived.Test.YtjnkphmcndaijaaDoorSpd10
import Derived.Test.YtjnkphmcndaijaaDoorSpd03
import Derived.Shelf.RegionOpen
import Derived.Test.YtjnkphmcndaijaaDoorSpd05
import Derived.Test.YtjnkphmcndaijaaDoorSpd06
namespace Go.Proofs.YtjnkphmcndaijaaDoor.A
set_option maxHeartbeats 8000000
set_option maxRecDepth 100000
open Go.RowKit Go.Proofs.YtjnkphmcndaijaaDoorW.PrintWords Go.Proofs.YtjnkphmcndaijaaDoorW.PrintLast Go.Proofs.YtjnkphmcndaijaaDoorW.PrintMore
attribute [local go_sem] max2_int min2_int max_two min_two max_three min_three max_four min_four
set_option linter.unusedVariables false
set_option linter.unusedSimpArgs false
section
def L_DetectionsIn.l0 : Nat → List Int → List Int → List Int → Int → Int → Int → Int → Option (List Int × Int)
 | 0, _, _, _, _, _, _, _ => none
 | k + 1, x6, x8, x31, x32, x33, x245000, x245001 => if x33 < x32 then (if 0 ≤ x33 then (if x33 < (x31.length : Int) then (if 0 ≤ (mx 0 (wrap64 (x33 - x245001))) then (if (mx 0 (wrap64 (x33 - x245001))) ≤ x33 then (if x33 ≤ (x6.length : Int) then (if x33 ≤ (mn (x6.length : Int) (wrap64 ((wrap64 (x33 + x245001)) + 1))) then (if (mn (x6.length : Int) (wrap64 ((wrap64 (x33 + x245001)) + 1))) ≤ (x6.length : Int) then (if (rd x31 x33) ≥ x245000 then ((Sp_int_106.f k ((x6.take ((mn (x6.length : Int) (wrap64 ((wrap64 (x33 + x245001)) + 1))) : Int).toNat).drop (x33 : Int).toNat)).bind fun t268 => (if (rd x31 x33) = t268 then ((L_ContainsFunc_ge.f ((x6.take (x33 : Int).toNat).drop ((mx 0 (wrap64 (x33 - x245001))) : Int).toNat) (rd x31 x33)).bind fun t269 => (if t269 = true then (L_DetectionsIn.l0 k x6 x8 x31 x32 (wrap64 (x33 + 1)) x245000 x245001) else (if x8.length < 17592186044416 then (L_DetectionsIn.l0 k x6 (x8 ++ [x33]) x31 x32 (wrap64 (x33 + 1)) x245000 x245001) else (none)))) else (L_DetectionsIn.l0 k x6 x8 x31 x32 (wrap64 (x33 + 1)) x245000 x245001))) else (L_DetectionsIn.l0 k x6 x8 x31 x32 (wrap64 (x33 + 1)) x245000 x245001)) else (none)) else (none)) else (none)) else (none)) else (none)) else (none)) else (none)) else (some (x8, 0))
def L_DetectionsIn.f (k : Nat) (l0 : List Int) (a1_0 : Int) (a1_1 : Int) : Option (List Int × Int) := (L_open.f l0).bind fun bt245 => ((L_thresholdErr.f a1_0).bind fun t249 => ((L_within.f a1_1 0 16).bind fun t250 => ((L_unless.f t250 2).bind fun t251 => ((L_first.f k (([bt245.2, t249, t251] : List Int))).bind fun t255 => (if t255 = 0 then (L_DetectionsIn.l0 k bt245.1 ([] : List Int) bt245.1 (bt245.1.length : Int) 0 a1_0 a1_1) else (none))))))
theorem L_DetectionsIn.mono_l : ∀ k, (∀ y0 y1 y2 y3 y4 y5 y6, LeO (L_DetectionsIn.l0 k y0 y1 y2 y3 y4 y5 y6) (L_DetectionsIn.l0 (k + 1) y0 y1 y2 y3 y4 y5 y6))
 | 0 => fun _ _ _ _ _ _ _ r h => by simp [L_DetectionsIn.l0] at h
 | k + 1 => by
  have ih0 := L_DetectionsIn.mono_l k
  ·intro y0 y1 y2 y3 y4 y5 y6
   unfold L_DetectionsIn.l0
   repeat' with_reducible first
    | exact ih0 ..
    | exact L_first.mono ..
    | exact Sp_int_106.mono ..
    | exact LeO.refl ..
    | exact LeO.none ..
    | refine LeO.ite ?_ ?_
    | refine LeO.bind ?_ (fun _ => ?_)
theorem L_DetectionsIn.mono : ∀ a0 a1 a2 k, LeO (L_DetectionsIn.f k a0 a1 a2) (L_DetectionsIn.f (k + 1) a0 a1 a2) := by
 intro a0 a1 a2 k
 have ih0 := L_DetectionsIn.mono_l k
 unfold L_DetectionsIn.f
 repeat' with_reducible first
  | exact ih0 ..
  | exact L_first.mono ..
  | exact Sp_int_106.mono ..
  | exact LeO.refl ..
  | exact LeO.none ..
  | refine LeO.ite ?_ ?_
  | refine LeO.bind ?_ (fun _ => ?_)
def L_DetectionsIn.T2 : Bool × List (List Nat × List Nat) := (true, [([], []), ([], []), ([1], [1]), ([2], [2]), ([], []), ([4], [4]), ([5, 3], [5]), ([6, 6], [6]), ([0, 3, 7], [0, 3, 7]), ([8, 7], [8]), ([9, 9, 0, 1, 2, 3, 4, 5, 6, 7, 8, 9], [0, 9])])
def L_DetectionsIn.B2 : List Nat := [0, 0, 2, 6, 0, 16, 62, 126, 255, 511, 1023]
theorem L_DetectionsIn.tab2 : rtab .any (opsOf Tryd.f43 2) = L_DetectionsIn.T2 := by kernel_rfl
theorem L_DetectionsIn.bits2 : waitsOk L_DetectionsIn.T2.2 L_DetectionsIn.B2 = true := by kernel_rfl
def L_DetectionsIn.T9 : Bool × List (List Nat × List Nat) := (true, [([], []), ([], []), ([], []), ([2], [2]), ([1, 3], [1, 3]), ([4], [4]), ([], []), ([0, 5, 6], [0, 5, 6]), ([], []), ([], []), ([], []), ([10], [10]), ([], []), ([], []), ([13], [13]), ([12, 14], [12, 14]), ([15], [15]), ([11, 16], [11, 16]), ([8, 9, 17], [8, 9, 17]), ([7, 0, 1, 2, 3, 4, 5, 6, 7], [7]), ([18, 19, 0, 1, 2, 3, 4, 5, 6, 7, 8, 9, 10, 11, 12, 13, 14, 15, 16, 17, 18, 19], [18])])
def L_DetectionsIn.B9 : List Nat := [0, 0, 0, 4, 14, 30, 0, 127, 0, 0, 0, 1024, 0, 0, 8192, 28672, 61440, 130048, 261888, 255, 1048575]
theorem L_DetectionsIn.tab9 : rtab .any (opsOf Tryd.f43 9) = L_DetectionsIn.T9 := by kernel_rfl
theorem L_DetectionsIn.bits9 : waitsOk L_DetectionsIn.T9.2 L_DetectionsIn.B9 = true := by kernel_rfl
def L_DetectionsIn.T10 : Bool × List (List Nat × List Nat) := (true, [([], []), ([], []), ([1], [1]), ([0, 2], [0, 2]), ([3], [3]), ([4], [4]), ([4], [4]), ([6, 4, 4], [4, 6]), ([5, 7, 4], [4, 5, 7]), ([4, 8], [4, 8]), ([9, 7], [9]), ([10], [10]), ([10], [10]), ([11, 12, 10, 10], [10, 11, 12]), ([13, 10], [10, 13]), ([10, 14], [10, 14])])
def L_DetectionsIn.B10 : List Nat := [0, 0, 2, 7, 15, 31, 31, 95, 255, 511, 1023, 2047, 2047, 8191, 16383, 32767]
theorem L_DetectionsIn.tab10 : rtab .any (opsOf Tryd.f43 10) = L_DetectionsIn.T10 := by kernel_rfl
theorem L_DetectionsIn.bits10 : waitsOk L_DetectionsIn.T10.2 L_DetectionsIn.B10 = true := by kernel_rfl
theorem L_DetectionsIn.calls (k : Nat) (A0 : Option Addr) (c0 : Nat) (l0 : List Int) (a1_0 : Int) (a1_1 : Int) (r1 : List Int) (r2 : Int) (w : World) (hr0 : Kd.C (Kd.int .i64) w A0 l0.length l0) (hc0 : l0.length ≤ c0) (h : L_DetectionsIn.f k l0 a1_0 a1_1 = some (r1, r2)) :
  Calls Tryd.prog 43 #[.slice A0 l0.length c0, .agg #[.int .i64 a1_0, .int .i64 a1_1]] w fun e w' => ∃ v0_ : Value, e = .returned (.tuple #[v0_, .int .i64 r2]) ∧ Kd.R (Kd.int .i64) 3 w' w.heap.size (fun _ => True) v0_ r1 ∧ Below w.heap.size w w' := by
 have hu57 := Tryd.underlying57
 have HR0 := m0 hr0
 have HC0 := m0 hc0
 clear hr0 hc0
 have HB := m0 (Below.refl w.heap.size w)
 have H : ((L_open.f l0).bind fun bt245 => ((L_thresholdErr.f a1_0).bind fun t249 => ((L_within.f a1_1 0 16).bind fun t250 => ((L_unless.f t250 2).bind fun t251 => ((L_first.f k (([bt245.2, t249, t251] : List Int))).bind fun t255 => (if t255 = 0 then (L_DetectionsIn.l0 k bt245.1 ([] : List Int) bt245.1 (bt245.1.length : Int) 0 a1_0 a1_1) else (none))))))) = some (r1, r2) := h
 clear h
 replace H := ob H
 obtain ⟨⟨t245, t248⟩, A3, H⟩ := H
 (try dsimp only at H)
 replace A3 := m0 A3
 replace H := ob H
 obtain ⟨t249, A4, H⟩ := H
 (try dsimp only at H)
 replace A4 := m0 A4
 replace H := ob H
 obtain ⟨t250, A5, H⟩ := H
 (try dsimp only at H)
 replace A5 := m0 A5
 replace H := ob H
 obtain ⟨t251, A6, H⟩ := H
 (try dsimp only at H)
 replace A6 := m0 A6
 obtain ⟨y252, hy252⟩ : ∃ y_ : List Int, y_ = (([t248, t249, t251] : List Int)) := ⟨_, rfl⟩
 replace H : ((L_first.f k y252).bind fun t255 => (if t255 = 0 then (L_DetectionsIn.l0 k t245 ([] : List Int) t245 (t245.length : Int) 0 a1_0 a1_1) else (none))) = some (r1, r2) := by first | (rw [hy252]; with_reducible exact H) | (have H2_ := (Option.bind_some _ _).symm.trans H; rw [hy252]; with_reducible exact H2_) | (have H2_ := (Option.bind_some _ _).symm.trans H; with_reducible exact H2_) | with_reducible exact H | (rw [hy252]; exact H) | exact H
 have Ny252 := m0 hy252
 clear hy252
 replace H := ob H
 obtain ⟨t255, A7, H⟩ := H
 (try dsimp only at H)
 replace A7 := m0 A7
 by_cases c8 : t255 = 0
 ·rw [if_pos c8] at H
  have c8b0 := beq_iff_eq.mpr c8
  have c8b1 := bne_eq_false_iff_eq.mpr c8
  clear c8
  have H' := m0 H
  clear H
  go_enter Tryd.func43, Tryd.ntmps43
  try go_wp2_with (first | ((with_reducible refine gate_dst (N := 3) rfl ?_); refine be 3 57 #[.int .i64 a1_0, .int .i64 a1_1] ?_; intro gb244 hg w9 hbox hb; have BK244 := m0 hbox; have GW244 := gw w hg; have GE244 := gw w hg; replace HB := sb HB hb; clear hb hbox hg) | ((with_reducible refine gate_callee (f := 102) rfl ?_); refine gl (some 15) Tryd.func102 #[.slice A0 l0.length c0] ?_; (with_reducible refine (L_open.calls (fun k_ => k_ < w.heap.size) _ _ l0 t245 t248 _ ?side1 A3.out).mono ?_); (case side1 => exact Kd.V_mk HC0.out (Kd.F_below (Kd.C_F (Kd.heap_int .i64) HR0.out) bz)); rintro e w10 ⟨v246, rfl, ho0, hb⟩; refine ⟨_, rfl, ?_⟩; have HO247 := m0 (Kd.V_lower (Kd.V_mono (ok' := fun k_ => k_ ≠ gb244) ho0 (fun k_ hk_ => Or.elim hk_ (fun hs_ => fun e_ => Nat.not_le.2 hs_ (by rw [e_]; exact GW244.out)) (fun hn_ => (Kd.freshB (g := gb244) (o := .cells #[.int .i64 a1_0, .int .i64 a1_1] 57 (0, 0)) (bk BK244.out) k_ hn_)))) (below_size bz)); replace BK244 := bb BK244 hb; replace HB := sb HB hb; (try clear hb); (try clear ho0)))
  replace HO247 := m0 (Kd.V_drew HO247.out); replace BK244 := bd BK244; replace HB := sd HB
  refine start_ (n := 11) (S := fun w' => w'.cell? ⟨gb244, 0, none⟩ = some (.int .i64 a1_0) ∧ w'.cell? ⟨gb244, 1, none⟩ = some (.int .i64 a1_1)) (ds := []) #[false, false, false, false, false, false, false, false, false, false, false] (by kernel_rfl) rfl rfl cz (fun hH => ?_); refine with_tabW L_DetectionsIn.tab2 L_DetectionsIn.bits2 (fun HT_ HW_ => ?_)
  generalize w10.drew = w11 at HO247 BK244 HB hH ⊢
  refine pZ 0 (some 18) #[true, false, false, false, false, false, false, false, false, false, false] HT_ ?_
  refine pZ 1 (some 19) #[true, true, false, false, false, false, false, false, false, false, false] HT_ ?_
  refine pZ 4 (some 22) #[true, true, false, false, true, false, false, false, false, false, false] HT_ ?_
  refine takeZ 2 (some 20) #[true, true, true, false, true, false, false, false, false, false, false] (take_ofW HT_.out HW_.out (by kernel_rfl)) hH ?_
  refine takeZ 5 (some 23) #[true, true, true, false, true, true, false, false, false, false, false] (take_ofW HT_.out HW_.out (by kernel_rfl)) hH ?_
  refine oneZ 3 (some 21) #[true, true, true, true, true, true, false, false, false, false, false] (one_of HT_.out (by kernel_rfl)) fun K hK => ?_
  refine gz Tryd.func100 #[.int .i64 a1_0] ?_
  with_reducible refine (L_thresholdErr.calls a1_0 t249 _ A4.out).mono ?_
  rintro e w' ⟨rfl, ⟨nd, rfl⟩⟩
  refine ⟨_, rfl, ?_⟩
  refine hK.out _ _ cz (fun hH => ?_)
  clear hK K
  refine norm_ (a' := ?_) ?_ ?_
  rotate_left
  ·show Act.put _ (some 21) _ = _
   exact pz
  refine oneZ 6 (some 24) #[true, true, true, true, true, true, true, false, false, false, false] (one_of HT_.out (by kernel_rfl)) fun K hK => ?_
  refine gz Tryd.func105 #[.int .i64 a1_1, .int .i64 0, .int .i64 16] ?_
  with_reducible refine (L_within.calls a1_1 0 16 t250 _ A5.out).mono ?_
  rintro e w' ⟨rfl, ⟨nd, rfl⟩⟩
  refine ⟨_, rfl, ?_⟩
  refine hK.out _ _ cz (fun hH => ?_)
  clear hK K
  refine norm_ (a' := ?_) ?_ ?_
  rotate_left
  ·show Act.put _ (some 24) _ = _
   exact pz
  refine oneZ 7 (some 25) #[true, true, true, true, true, true, true, true, false, false, false] (one_of HT_.out (by kernel_rfl)) fun K hK => ?_
  refine gz Tryd.func93 #[.bool t250, .int .i64 2] ?_
  with_reducible refine (L_unless.calls t250 2 t251 _ A6.out).mono ?_
  rintro e w' ⟨rfl, ⟨nd, rfl⟩⟩
  refine ⟨_, rfl, ?_⟩
  refine hK.out _ _ cz (fun hH => ?_)
  clear hK K
  refine norm_ (a' := ?_) ?_ ?_
  rotate_left
  ·show Act.put _ (some 25) _ = _
   exact pz
  refine oneZ 8 (some 26) #[true, true, true, true, true, true, true, true, true, false, false] (one_of HT_.out (by kernel_rfl)) fun K hK => ?_
  refine Kd.R_lit_step (Kd.int .i64) _ 31 ?hg (N := 26) ?hd (xs := ([t248, t249, t251] : List Int)) (inner := [.int .i64 t248, .int .i64 t249, .int .i64 t251]) (ok := fun _ => True) (okp := fun _ => True) ?hr ?hp (fun _ hk => hk) trivial (Below.refl _ _) (Nat.le_refl _) (by simp) ?_; (case hd => rfl); (case hg => rfl); (case hr => first | (go_simp; done) | (go_simp; rfl)); (case hp => exact (Reps.one (show Kd.M (Kd.int .i64) _ _ _ t248 [.int .i64 t248] from rfl) (Reps.one (show Kd.M (Kd.int .i64) _ _ _ t249 [.int .i64 t249] from rfl) (Reps.one (show Kd.M (Kd.int .i64) _ _ _ t251 [.int .i64 t251] from rfl) (Reps.none _ _)))))
  intro v253 w12 ho13 hb hg_ hnew_
  clear hg_ hnew_
  (first | rw [← Ny252.out] at ho13 | (simp only [Int.reduceToNat] at ho13; rw [← Ny252.out] at ho13))
  replace HO247 := m0 (Kd.V_elder' (by (with_reducible repeat (first | apply Kd.V_alloc | apply Kd.V_drewN | apply Kd.V_drew)); exact HO247.out) (Kd.R_base ho13) hb); have HO254 := m0 (Kd.R_lower ho13 (below_size bz)); replace BK244 := bb BK244 hb; replace HB := sb HB hb
  clear hb ho13
  obtain ⟨Ao14, co14, eo14⟩ := Kd.R_slice HO254.out
  subst eo14
  refine hK.out _ _ cz (fun hH => ?_)
  clear hK K
  refine norm_ (a' := ?_) ?_ ?_
  rotate_left
  ·show Act.put _ (some 26) _ = _
   exact pz
  refine oneZ 9 (some 27) #[true, true, true, true, true, true, true, true, true, true, false] (one_of HT_.out (by kernel_rfl)) fun K hK => ?_
  refine gz Tryd.func91 #[.slice Ao14 y252.length co14] ?_
  with_reducible refine (L_first.calls k _ _ y252 t255 _ ?side1 ?side2 A7.out).mono ?_
  (case side1 => exact bc (Kd.R_reads' HO254.out).2.2)
  (case side2 => exact (Kd.R_reads' HO254.out).2.1)
  rintro e w' ⟨rfl, ⟨nd, rfl⟩⟩
  refine ⟨_, rfl, ?_⟩
  refine hK.out _ _ cz (fun hH => ?_)
  clear hK K
  refine norm_ (a' := ?_) ?_ ?_
  rotate_left
  ·show Act.put _ (some 27) _ = _
   exact pz
  refine pZ 10 (some 7) #[true, true, true, true, true, true, true, true, true, true, true] HT_ ?_
  refine done_ (done_of HT_.out (by kernel_rfl)) ?_
  obtain ⟨Ao15, co15, eo15⟩ := Kd.V_slice HO247.out
  subst eo15
  try go_wp2
  go_loopg [8, 33] k (fun kq v8 v33 w' => ∃ (x8_1 : List Int) (x33_1 : Int), v33 = .int .i64 x33_1 ∧ Aside0 (L_DetectionsIn.l0 kq t245 x8_1 t245 (t245.length : Int) x33_1 a1_0 a1_1 = some (r1, r2)) ∧ Aside0 (kq ≤ k) ∧ Aside0 (Kd.V (Kd.int .i64) 3 w' w.heap.size (fun k_ => some k_ ≠ (v8 : Value).ownBlock ∧ k_ ≠ gb244) (.slice Ao15 t245.length co15) t245) ∧ Aside0 (Kd.R (Kd.int .i64) 3 w' w.heap.size (fun _ => True) v8 x8_1) ∧ Aside0 (Kd.V (Kd.int .i64) 3 w' w.heap.size (fun k_ => some k_ ≠ (v8 : Value).ownBlock ∧ k_ ≠ gb244) (.slice Ao15 t245.length co15) t245) ∧ Aside0 (w'.heap[gb244]? = some (.cells #[.int .i64 a1_0, .int .i64 a1_1] 57 (0, 0))) ∧ Aside0 (Below w.heap.size w w'))
  case atStart => exact ⟨(([] : List Int)), (0), (by first | rfl | (simp; done) | (simp [*]; done)), H', ⟨Nat.le_refl _⟩, ⟨by (with_reducible repeat (first | apply Kd.V_alloc | apply Kd.V_drewN | apply Kd.V_drew)); exact Kd.V_mono HO247.out (fun _ hk => ⟨(by simp [Value.ownBlock]), hk.1⟩)⟩, ⟨by first | exact Kd.R_nil _ _ _ _ _ | exact Kd.N_nil _ _ _ _ _ | exact Kd.V_nil _ _ _ _ _ | exact Kd.Q_nil _ _ _ _ _ | exact Kd.S_nil _ _ _ _ _⟩, ⟨by (with_reducible repeat (first | apply Kd.V_alloc | apply Kd.V_drewN | apply Kd.V_drew)); exact Kd.V_mono HO247.out (fun _ hk => ⟨(by simp [Value.ownBlock]), hk.1⟩)⟩, ⟨bk BK244.out⟩, ⟨bz⟩⟩
  case round =>
   clear H'
   obtain ⟨x8_1, x33_1, rfl, HA, HK1, HO_6, HO_8, HO_31, BK244, HB⟩ := hrel
   cases gk with
   | zero => exact absurd HA.out (by simp [L_DetectionsIn.l0])
   | succ k1 =>
    have H := HA.out
    clear HA
    simp only [L_DetectionsIn.l0] at H
    by_cases c16 : x33_1 < (t245.length : Int)
    ·rw [if_pos c16] at H
     have c16b0 := decide_eq_true c16
     clear c16
     by_cases c17 : 0 ≤ x33_1
     ·rw [if_pos c17] at H
      have c17b0 := decide_eq_true c17
      clear c17
      by_cases c18 : x33_1 < (t245.length : Int)
      ·rw [if_pos c18] at H
       have c18b0 := decide_eq_true c18
       clear c18
       obtain ⟨ji19, hji19⟩ : ∃ j_ : Int, (mx 0 (wrap64 (x33_1 - a1_1))) = j_ := ⟨_, rfl⟩
       replace H : (if 0 ≤ (ji19) then (if (ji19) ≤ x33_1 then (if x33_1 ≤ (t245.length : Int) then (if x33_1 ≤ (mn (t245.length : Int) (wrap64 ((wrap64 (x33_1 + a1_1)) + 1))) then (if (mn (t245.length : Int) (wrap64 ((wrap64 (x33_1 + a1_1)) + 1))) ≤ (t245.length : Int) then (if (rd t245 x33_1) ≥ a1_0 then ((Sp_int_106.f k1 ((t245.take ((mn (t245.length : Int) (wrap64 ((wrap64 (x33_1 + a1_1)) + 1))) : Int).toNat).drop (x33_1 : Int).toNat)).bind fun t268 => (if (rd t245 x33_1) = t268 then ((L_ContainsFunc_ge.f ((t245.take (x33_1 : Int).toNat).drop ((ji19) : Int).toNat) (rd t245 x33_1)).bind fun t269 => (if t269 = true then (L_DetectionsIn.l0 k1 t245 x8_1 t245 (t245.length : Int) (wrap64 (x33_1 + 1)) a1_0 a1_1) else (if x8_1.length < 17592186044416 then (L_DetectionsIn.l0 k1 t245 (x8_1 ++ [x33_1]) t245 (t245.length : Int) (wrap64 (x33_1 + 1)) a1_0 a1_1) else (none)))) else (L_DetectionsIn.l0 k1 t245 x8_1 t245 (t245.length : Int) (wrap64 (x33_1 + 1)) a1_0 a1_1))) else (L_DetectionsIn.l0 k1 t245 x8_1 t245 (t245.length : Int) (wrap64 (x33_1 + 1)) a1_0 a1_1)) else (none)) else (none)) else (none)) else (none)) else (none)) = some (r1, r2) := by first | (rw [hji19] at H; exact H) | (simp only [hji19] at H ⊢; exact H)
       have hji19_ : (if 0 < (wrap64 (x33_1 - a1_1)) then (wrap64 (x33_1 - a1_1)) else 0) = ji19 := hji19
       by_cases c20 : 0 ≤ (ji19)
       ·rw [if_pos c20] at H
        have c20b0 := eq_true c20
        have c20b1 := decide_eq_true c20
        clear c20
        by_cases c21 : (ji19) ≤ x33_1
        ·rw [if_pos c21] at H
         have c21b0 := eq_true c21
         have c21b1 := decide_eq_true c21
         clear c21
         by_cases c22 : x33_1 ≤ (t245.length : Int)
         ·rw [if_pos c22] at H
          have c22b0 := eq_true c22
          have c22b1 := decide_eq_true c22
          clear c22
          obtain ⟨y258, hy258⟩ : ∃ y_ : List Int, y_ = ((t245.take (x33_1 : Int).toNat).drop ((ji19) : Int).toNat) := ⟨_, rfl⟩
          replace H : (if x33_1 ≤ (mn (t245.length : Int) (wrap64 ((wrap64 (x33_1 + a1_1)) + 1))) then (if (mn (t245.length : Int) (wrap64 ((wrap64 (x33_1 + a1_1)) + 1))) ≤ (t245.length : Int) then (if (rd t245 x33_1) ≥ a1_0 then ((Sp_int_106.f k1 ((t245.take ((mn (t245.length : Int) (wrap64 ((wrap64 (x33_1 + a1_1)) + 1))) : Int).toNat).drop (x33_1 : Int).toNat)).bind fun t268 => (if (rd t245 x33_1) = t268 then ((L_ContainsFunc_ge.f y258 (rd t245 x33_1)).bind fun t269 => (if t269 = true then (L_DetectionsIn.l0 k1 t245 x8_1 t245 (t245.length : Int) (wrap64 (x33_1 + 1)) a1_0 a1_1) else (if x8_1.length < 17592186044416 then (L_DetectionsIn.l0 k1 t245 (x8_1 ++ [x33_1]) t245 (t245.length : Int) (wrap64 (x33_1 + 1)) a1_0 a1_1) else (none)))) else (L_DetectionsIn.l0 k1 t245 x8_1 t245 (t245.length : Int) (wrap64 (x33_1 + 1)) a1_0 a1_1))) else (L_DetectionsIn.l0 k1 t245 x8_1 t245 (t245.length : Int) (wrap64 (x33_1 + 1)) a1_0 a1_1)) else (none)) else (none)) = some (r1, r2) := by first | (rw [hy258]; with_reducible exact H) | (have H2_ := (Option.bind_some _ _).symm.trans H; rw [hy258]; with_reducible exact H2_) | (have H2_ := (Option.bind_some _ _).symm.trans H; with_reducible exact H2_) | with_reducible exact H | (rw [hy258]; exact H) | exact H
          have Ny258 := m0 hy258
          clear hy258
          obtain ⟨ji23, hji23⟩ : ∃ j_ : Int, (mn (t245.length : Int) (wrap64 ((wrap64 (x33_1 + a1_1)) + 1))) = j_ := ⟨_, rfl⟩
          replace H : (if x33_1 ≤ (ji23) then (if (ji23) ≤ (t245.length : Int) then (if (rd t245 x33_1) ≥ a1_0 then ((Sp_int_106.f k1 ((t245.take ((ji23) : Int).toNat).drop (x33_1 : Int).toNat)).bind fun t268 => (if (rd t245 x33_1) = t268 then ((L_ContainsFunc_ge.f y258 (rd t245 x33_1)).bind fun t269 => (if t269 = true then (L_DetectionsIn.l0 k1 t245 x8_1 t245 (t245.length : Int) (wrap64 (x33_1 + 1)) a1_0 a1_1) else (if x8_1.length < 17592186044416 then (L_DetectionsIn.l0 k1 t245 (x8_1 ++ [x33_1]) t245 (t245.length : Int) (wrap64 (x33_1 + 1)) a1_0 a1_1) else (none)))) else (L_DetectionsIn.l0 k1 t245 x8_1 t245 (t245.length : Int) (wrap64 (x33_1 + 1)) a1_0 a1_1))) else (L_DetectionsIn.l0 k1 t245 x8_1 t245 (t245.length : Int) (wrap64 (x33_1 + 1)) a1_0 a1_1)) else (none)) else (none)) = some (r1, r2) := by first | (rw [hji23] at H; exact H) | (simp only [hji23] at H ⊢; exact H)
          have hji23_ : (if (wrap64 ((wrap64 (x33_1 + a1_1)) + 1)) < (t245.length : Int) then (wrap64 ((wrap64 (x33_1 + a1_1)) + 1)) else (t245.length : Int)) = ji23 := hji23
          have c24b0 := eq_true (od : 0 ≤ x33_1)
          by_cases c25 : x33_1 ≤ (ji23)
          ·rw [if_pos c25] at H
           have c25b0 := eq_true c25
           have c25b1 := decide_eq_true c25
           clear c25
           by_cases c26 : (ji23) ≤ (t245.length : Int)
           ·rw [if_pos c26] at H
            have c26b0 := eq_true c26
            have c26b1 := decide_eq_true c26
            clear c26
            obtain ⟨y263, hy263⟩ : ∃ y_ : List Int, y_ = ((t245.take ((ji23) : Int).toNat).drop (x33_1 : Int).toNat) := ⟨_, rfl⟩
            replace H : (if (rd t245 x33_1) ≥ a1_0 then ((Sp_int_106.f k1 y263).bind fun t268 => (if (rd t245 x33_1) = t268 then ((L_ContainsFunc_ge.f y258 (rd t245 x33_1)).bind fun t269 => (if t269 = true then (L_DetectionsIn.l0 k1 t245 x8_1 t245 (t245.length : Int) (wrap64 (x33_1 + 1)) a1_0 a1_1) else (if x8_1.length < 17592186044416 then (L_DetectionsIn.l0 k1 t245 (x8_1 ++ [x33_1]) t245 (t245.length : Int) (wrap64 (x33_1 + 1)) a1_0 a1_1) else (none)))) else (L_DetectionsIn.l0 k1 t245 x8_1 t245 (t245.length : Int) (wrap64 (x33_1 + 1)) a1_0 a1_1))) else (L_DetectionsIn.l0 k1 t245 x8_1 t245 (t245.length : Int) (wrap64 (x33_1 + 1)) a1_0 a1_1)) = some (r1, r2) := by first | (rw [hy263]; with_reducible exact H) | (have H2_ := (Option.bind_some _ _).symm.trans H; rw [hy263]; with_reducible exact H2_) | (have H2_ := (Option.bind_some _ _).symm.trans H; with_reducible exact H2_) | with_reducible exact H | (rw [hy263]; exact H) | exact H
            have Ny263 := m0 hy263
            clear hy263
            by_cases c27 : (rd t245 x33_1) ≥ a1_0
            ·rw [if_pos c27] at H
             have c27b0 := decide_eq_true c27
             clear c27
             replace H := ob H
             obtain ⟨t268, A28, H⟩ := H
             (try dsimp only at H)
             replace A28 := m0 A28
             by_cases c29 : (rd t245 x33_1) = t268
             ·rw [if_pos c29] at H
              have c29b0 := beq_iff_eq.mpr c29
              have c29b1 := bne_eq_false_iff_eq.mpr c29
              clear c29
              replace H := ob H
              obtain ⟨t269, A30, H⟩ := H
              (try dsimp only at H)
              replace A30 := m0 A30
              by_cases c31 : t269 = true
              ·subst c31
               rw [if_pos rfl] at H
               have H' := m0 H
               clear H
               have p256 : 0 ≤ (x33_1 : Int) := od
               have q256 : x33_1 < (t245.length : Int) := od
               obtain ⟨ad256, e256, hx256_0⟩ := Kd.at_int (Kd.V_reads' HO_31.out).2.2 x33_1 p256 q256
               cases e256
               replace p256 := eq_true p256
               replace q256 := eq_true q256
               try go_wp2_with (first | ((with_reducible refine gate_dst (N := 10) rfl ?_); refine be 10 3 #[.int .i64 0] ?_; intro gb257 hg w32 hbox hb; replace HO_6 := ve HO_6 hg hb; replace HO_8 := m0 (Kd.R_below (Kd.R_elderB (br HO_8.out) gb257 (Nat.le_of_eq hg.symm)) hb); replace HO_31 := ve HO_31 hg hb; have BK257 := m0 hbox; have GE257 := gw w hg; replace HB := sb HB hb; have NB244_257 := nl BK244 hg; have NB257_244 := ng (nl BK244 hg); replace BK244 := bb BK244 hb; clear hb hbox hg; have hnb33 := NB257_244.out; have hnc33 := NB244_257.out; obtain ⟨_, _⟩ := b1 BK257))
               replace HO_6 : Aside0 (Kd.V (Kd.int .i64) 3 (w32.setCell ⟨gb257, 0, none⟩ (.int .i64 (rd t245 x33_1))) w.heap.size (fun k_ => some k_ ≠ (u8 : Value).ownBlock ∧ k_ ≠ gb244 ∧ k_ ≠ gb257) (.slice (some ad256) t245.length co15) t245) := ⟨by (with_reducible repeat (first | apply Kd.V_alloc | apply Kd.V_drewN | apply Kd.V_drew)); exact Kd.V_mono (Kd.V_far (p := ⟨gb257, 0, none⟩) (Kd.V_mono HO_6.out (fun k_ hk => (⟨hk, hk.2⟩ : _ ∧ k_ ≠ gb257))) (fun _ hk => hk.2) (.int .i64 (rd t245 x33_1))) (fun _ hk => ⟨hk.1.1.1, ⟨hk.1.1.2, hk.1.2⟩⟩)⟩
               replace HO_8 : Aside0 (Kd.R (Kd.int .i64) 3 (w32.setCell ⟨gb257, 0, none⟩ (.int .i64 (rd t245 x33_1))) w.heap.size (fun k_ => k_ ≠ gb257) u8 x8_1) := ⟨by (with_reducible repeat (first | apply Kd.R_alloc | apply Kd.R_drewN | apply Kd.R_drew)); exact Kd.R_mono (Kd.R_far (p := ⟨gb257, 0, none⟩) (Kd.R_mono HO_8.out (fun k_ hk => (⟨hk, hk.2⟩ : _ ∧ k_ ≠ gb257))) (fun _ hk => hk.2) (.int .i64 (rd t245 x33_1))) (fun _ hk => hk.1.2)⟩
               replace HO_31 : Aside0 (Kd.V (Kd.int .i64) 3 (w32.setCell ⟨gb257, 0, none⟩ (.int .i64 (rd t245 x33_1))) w.heap.size (fun k_ => some k_ ≠ (u8 : Value).ownBlock ∧ k_ ≠ gb244 ∧ k_ ≠ gb257) (.slice (some ad256) t245.length co15) t245) := ⟨by (with_reducible repeat (first | apply Kd.V_alloc | apply Kd.V_drewN | apply Kd.V_drew)); exact Kd.V_mono (Kd.V_far (p := ⟨gb257, 0, none⟩) (Kd.V_mono HO_31.out (fun k_ hk => (⟨hk, hk.2⟩ : _ ∧ k_ ≠ gb257))) (fun _ hk => hk.2) (.int .i64 (rd t245 x33_1))) (fun _ hk => ⟨hk.1.1.1, ⟨hk.1.1.2, hk.1.2⟩⟩)⟩
               replace BK244 : Aside0 ((w32.setCell ⟨gb257, 0, none⟩ (.int .i64 (rd t245 x33_1))).heap[gb244]? = some (.cells #[.int .i64 a1_0, .int .i64 a1_1] 57 (0, 0))) := ⟨bq BK244.out⟩
               replace BK257 : Aside0 ((w32.setCell ⟨gb257, 0, none⟩ (.int .i64 (rd t245 x33_1))).heap[gb257]? = some (.cells #[.int .i64 (rd t245 x33_1)] 3 (0, 0))) := ⟨bq BK257.out⟩
               replace HB : Aside0 (Below w.heap.size w (w32.setCell ⟨gb257, 0, none⟩ (.int .i64 (rd t245 x33_1)))) := ⟨bz⟩
               generalize (w32.setCell ⟨gb257, 0, none⟩ (.int .i64 (rd t245 x33_1))) = w35 at HO_6 HO_8 HO_31 BK244 BK257 HB ⊢
               replace HO_6 := m0 (Kd.V_drew HO_6.out); replace HO_8 := m0 (Kd.R_drew HO_8.out); replace HO_31 := m0 (Kd.V_drew HO_31.out); replace BK244 := bd BK244; replace BK257 := bd BK257; replace HB := sd HB
               have q37 : (x33_1 : Int) ≤ ((t245.length : Int) : Int) := od
               obtain ⟨i037, hi037, _, hsz37, _⟩ := info_parts info3
               have hroom37 : t245.length ≤ co15 := (Kd.V_reads' HO_6.out).2.1
               have hC37 : Kd.F (Kd.int .i64) _ _ (some ad256) t245.length t245 := (Kd.V_at (base := w.heap.size) HO_6.out).2.2
               have ql37 : ((ji19) : Int) ≤ (x33_1 : Int) := od
               have q037 : (0 : Int) ≤ ((ji19) : Int) := od
               have hcut37 := cut_mid (P := Tryd.prog) 120 3 .i64 .i64 Tryd.underlying120 hi037 1 hsz37 (some ad256) t245.length co15 (ji19) x33_1 q037 ql37 q37 hroom37
               have hr37 := Kd.F_mid (lo := ((ji19) : Int).toNat) (hi := (x33_1 : Int).toNat) (c := co15) hC37 (by omega) (by omega) hroom37
               obtain ⟨A37, hA37⟩ : ∃ A1, A1 = (if co15 = ((ji19) : Int).toNat then (some ad256) else ((some ad256) : Option Addr).map (·.add (((ji19) : Int).toNat * 1))) := ⟨_, rfl⟩
               obtain ⟨c37, hc37⟩ : ∃ c1, c1 = co15 - ((ji19) : Int).toNat := ⟨_, rfl⟩
               have hy37 : y258.length = (x33_1 : Int).toNat - ((ji19) : Int).toNat := (by rw [Ny258.out, List.length_drop, List.length_take] <;> omega)
               rw [show ((t245).take (x33_1 : Int).toNat).drop ((ji19) : Int).toNat = y258 from Ny258.out.symm] at hr37
               replace hr37 : Kd.F (Kd.int .i64) _ _ A37 y258.length y258 := (by rw [hA37]; exact hr37)
               rw [← hy37, ← hA37, ← hc37] at hcut37
               have HO262 := m0 (show Kd.V (Kd.int .i64) 3 _ w.heap.size _ (.slice A37 y258.length c37) y258 from Kd.V_mk (by rw [hy37, hc37]; exact Nat.sub_le_sub_right (Nat.le_trans (by omega) hroom37) _) hr37)
               have HC262 := m0 (show y258.length ≤ c37 from by rw [hy37, hc37]; exact Nat.sub_le_sub_right (Nat.le_trans (by omega) hroom37) _)
               clear hr37 hC37 hroom37 hi037 hsz37 hc37
               have KY37 := m0 hy37
               have KA37 := m0 hA37
               clear hy37 hA37
               replace q37 := eq_true q37
               have q38 : ((ji23) : Int) ≤ ((t245.length : Int) : Int) := od
               obtain ⟨i038, hi038, _, hsz38, _⟩ := info_parts info3
               have hroom38 : t245.length ≤ co15 := (Kd.V_reads' HO_6.out).2.1
               have hC38 : Kd.F (Kd.int .i64) _ _ (some ad256) t245.length t245 := (Kd.V_at (base := w.heap.size) HO_6.out).2.2
               have ql38 : (x33_1 : Int) ≤ ((ji23) : Int) := od
               have q038 : (0 : Int) ≤ (x33_1 : Int) := od
               have hcut38 := cut_mid (P := Tryd.prog) 120 3 .i64 .i64 Tryd.underlying120 hi038 1 hsz38 (some ad256) t245.length co15 x33_1 (ji23) q038 ql38 q38 hroom38
               have hr38 := Kd.F_mid (lo := (x33_1 : Int).toNat) (hi := ((ji23) : Int).toNat) (c := co15) hC38 (by omega) (by omega) hroom38
               obtain ⟨A38, hA38⟩ : ∃ A1, A1 = (if co15 = (x33_1 : Int).toNat then (some ad256) else ((some ad256) : Option Addr).map (·.add ((x33_1 : Int).toNat * 1))) := ⟨_, rfl⟩
               obtain ⟨c38, hc38⟩ : ∃ c1, c1 = co15 - (x33_1 : Int).toNat := ⟨_, rfl⟩
               have hy38 : y263.length = ((ji23) : Int).toNat - (x33_1 : Int).toNat := (by rw [Ny263.out, List.length_drop, List.length_take] <;> omega)
               rw [show ((t245).take ((ji23) : Int).toNat).drop (x33_1 : Int).toNat = y263 from Ny263.out.symm] at hr38
               replace hr38 : Kd.F (Kd.int .i64) _ _ A38 y263.length y263 := (by rw [hA38]; exact hr38)
               rw [← hy38, ← hA38, ← hc38] at hcut38
               have HO267 := m0 (show Kd.V (Kd.int .i64) 3 _ w.heap.size _ (.slice A38 y263.length c38) y263 from Kd.V_mk (by rw [hy38, hc38]; exact Nat.sub_le_sub_right (Nat.le_trans (by omega) hroom38) _) hr38)
               have HC267 := m0 (show y263.length ≤ c38 from by rw [hy38, hc38]; exact Nat.sub_le_sub_right (Nat.le_trans (by omega) hroom38) _)
               clear hr38 hC38 hroom38 hi038 hsz38 hc38
               have KY38 := m0 hy38
               have KA38 := m0 hA38
               clear hy38 hA38
               replace q38 := eq_true q38
               refine start_ (n := 21) (S := fun w' => w'.cell? ⟨gb244, 0, none⟩ = some (.int .i64 a1_0) ∧ w'.cell? ⟨gb244, 1, none⟩ = some (.int .i64 a1_1)) (ds := []) #[false, false, false, false, false, false, false, false, false, false, false, false, false, false, false, false, false, false, false, false, false] (by kernel_rfl) rfl rfl cz (fun hH => ?_); refine with_tabW L_DetectionsIn.tab9 L_DetectionsIn.bits9 (fun HT_ HW_ => ?_)
               generalize w35.drew = w36 at HO_6 HO_8 HO_31 BK244 BK257 HB HO262 HO267 hH ⊢
               refine pZ 0 (some 38) (bs 21 1) HT_ ?_
               refine pZ 1 (some 39) (bs 21 3) HT_ ?_
               refine pZ 2 (some 40) (bs 21 7) HT_ ?_
               refine pZ 6 (some 44) (bs 21 71) HT_ ?_
               refine pZ 8 (some 46) (bs 21 327) HT_ ?_
               refine pZ 9 (some 47) (bs 21 839) HT_ ?_
               refine pZ 10 (some 48) (bs 21 1863) HT_ ?_
               refine pZ 11 (some 49) (bs 21 3911) HT_ ?_
               refine pZ 12 (some 50) (bs 21 8007) HT_ ?_
               refine pZ 13 (some 51) (bs 21 16199) HT_ ?_
               refine takeZ 3 (some 41) (bs 21 16207) (take_ofW HT_.out HW_.out (by kernel_rfl)) hH ?_
               refine pZ 4 (some 42) (bs 21 16223) HT_ ?_
               refine pZ 5 (some 43) (bs 21 16255) HT_ ?_
               refine pZ 7 (some 45) (bs 21 16383) HT_ ?_
               refine pZ 19 (some 11) (bs 21 540671) HT_ ?_
               refine takeZ 14 (some 52) (bs 21 557055) (take_ofW HT_.out HW_.out (by kernel_rfl)) hH ?_
               refine pZ 15 (some 53) (bs 21 589823) HT_ ?_
               refine pZ 16 (some 54) (bs 21 655359) HT_ ?_
               refine pZ 17 (some 55) (bs 21 786431) HT_ ?_
               refine pZ 18 (some 56) (bs 21 1048575) HT_ ?_
               refine pZ 20 (some 12) (bs 21 2097151) HT_ ?_
               refine done_ (done_of HT_.out (by kernel_rfl)) ?_
               try go_wp2
               replace HO_6 := m0 (Kd.V_drew HO_6.out); replace HO_8 := m0 (Kd.R_drew HO_8.out); replace HO_31 := m0 (Kd.V_drew HO_31.out); replace HO262 := m0 (Kd.V_drew HO262.out); replace HO267 := m0 (Kd.V_drew HO267.out); replace BK244 := bd BK244; replace BK257 := bd BK257; replace HB := sd HB
               refine start_ (n := 16) (S := fun w' => w'.cell? ⟨gb257, 0, none⟩ = some (.int .i64 (rd t245 x33_1)) ∧ w'.cell? ⟨gb244, 0, none⟩ = some (.int .i64 a1_0) ∧ w'.cell? ⟨gb244, 1, none⟩ = some (.int .i64 a1_1)) (ds := []) #[false, false, false, false, false, false, false, false, false, false, false, false, false, false, false, false] (by kernel_rfl) rfl rfl cz (fun hH => ?_); refine with_tabW L_DetectionsIn.tab10 L_DetectionsIn.bits10 (fun HT_ HW_ => ?_)
               generalize w36.drew = w39 at HO_6 HO_8 HO_31 HO262 HO267 BK244 BK257 HB hH ⊢
               refine pZ 1 (some 58) (bs 16 2) HT_ ?_
               refine takeZ 0 (some 57) (bs 16 3) (take_ofW HT_.out HW_.out (by kernel_rfl)) hH ?_
               refine takeZ 2 (some 59) (bs 16 7) (take_ofW HT_.out HW_.out (by kernel_rfl)) hH ?_
               refine pZ 3 (some 60) (bs 16 15) HT_ ?_
               refine pZ 4 (some 61) (bs 16 31) HT_ ?_
               refine pZ 6 (some 63) (bs 16 95) HT_ ?_
               refine takeZ 5 (some 62) (bs 16 127) (take_ofW HT_.out HW_.out (by kernel_rfl)) hH ?_
               refine oneZ 7 (some 64) (bs 16 255) (one_of HT_.out (by kernel_rfl)) fun K hK => ?_
               refine gz Tryd.func106 #[.slice A38 y263.length c38] ?_
               with_reducible refine (Sp_int_106.calls k1 _ _ y263 t268 _ ?side1 ?side2 A28.out).mono ?_
               (case side1 => exact bc (Kd.V_reads' HO267.out).2.2)
               (case side2 => exact (Kd.V_reads' HO267.out).2.1)
               rintro e w40 ⟨rfl, hb⟩
               refine ⟨_, rfl, ?_⟩
               replace HO_6 := vb HO_6 hb; replace HO_8 := rb HO_8 hb; replace HO_31 := vb HO_31 hb; replace HO262 := vb HO262 hb; replace HO267 := vb HO267 hb; replace BK244 := bb BK244 hb; replace BK257 := bb BK257 hb; replace HB := sb HB hb
               (try clear hb)
               refine hK.out _ _ cz (fun hH => ?_)
               clear hK K
               refine norm_ (a' := ?_) ?_ ?_
               rotate_left
               ·show Act.put _ (some 64) _ = _
                exact pz
               refine pZ 8 (some 65) (bs 16 511) HT_ ?_
               refine pZ 9 (some 66) (bs 16 1023) HT_ ?_
               refine pZ 10 (some 67) (bs 16 2047) HT_ ?_
               refine pZ 11 (some 68) (bs 16 4095) HT_ ?_
               refine pZ 12 (some 69) (bs 16 8191) HT_ ?_
               refine oneZ 13 (some 70) (bs 16 16383) (one_of HT_.out (by kernel_rfl)) fun K hK => ?_
               refine gz Tryd.func107 #[.slice A37 y258.length c37, .func (.func 108) #[] #[.pointer (some ⟨gb257, 0, none⟩)]] ?_
               with_reducible refine (L_ContainsFunc_ge.calls _ _ y258 gb257 (rd t245 x33_1) true _ ?side1 ?side2 ?side3 A30.out).mono ?_
               (case side1 => exact bc (Kd.V_reads' HO262.out).2.2)
               (case side2 => exact (Kd.V_reads' HO262.out).2.1)
               (case side3 => exact (bk BK257.out))
               rintro e w' ⟨rfl, ⟨nd, rfl⟩⟩
               refine ⟨_, rfl, ?_⟩
               refine hK.out _ _ cz (fun hH => ?_)
               clear hK K
               refine norm_ (a' := ?_) ?_ ?_
               rotate_left
               ·show Act.put _ (some 70) _ = _
                exact pz
               refine pZ 14 (some 71) (bs 16 32767) HT_ ?_
               refine pZ 15 (some 72) (bs 16 65535) HT_ ?_
               refine done_ (done_of HT_.out (by kernel_rfl)) ?_
               try go_wp2
               go_roundg k1
               case measure => have := HK1.out; omega
               case rel => exact ⟨(x8_1), (wrap64 (x33_1 + 1)), (by first | rfl | (simp; done) | (simp [*]; done)), H', ⟨by have := HK1.out; omega⟩, ⟨by (with_reducible repeat (first | apply Kd.V_alloc | apply Kd.V_drewN | apply Kd.V_drew)); exact Kd.V_mono HO_6.out (fun _ hk => ⟨hk.1, hk.2.1⟩)⟩, ⟨by (with_reducible repeat (first | apply Kd.R_alloc | apply Kd.R_drewN | apply Kd.R_drew)); exact Kd.R_mono HO_8.out (fun _ hk => trivial)⟩, ⟨by (with_reducible repeat (first | apply Kd.V_alloc | apply Kd.V_drewN | apply Kd.V_drew)); exact Kd.V_mono HO_31.out (fun _ hk => ⟨hk.1, hk.2.1⟩)⟩, ⟨bk BK244.out⟩, ⟨bz⟩⟩
              ·replace c31 := Bool.eq_false_iff.mpr c31
               subst c31
               rw [if_neg (show ¬ (false = true) by decide)] at H
               by_cases c41 : x8_1.length < 17592186044416
               ·rw [if_pos c41] at H
                have LMc41 := m0 c41
                clear c41
                obtain ⟨y270, hy270⟩ : ∃ y_ : List Int, y_ = (x8_1 ++ [x33_1]) := ⟨_, rfl⟩
                replace H : (L_DetectionsIn.l0 k1 t245 y270 t245 (t245.length : Int) (wrap64 (x33_1 + 1)) a1_0 a1_1) = some (r1, r2) := by first | (rw [hy270]; with_reducible exact H) | (have H2_ := (Option.bind_some _ _).symm.trans H; rw [hy270]; with_reducible exact H2_) | (have H2_ := (Option.bind_some _ _).symm.trans H; with_reducible exact H2_) | with_reducible exact H | (rw [hy270]; exact H) | exact H
                have Ny270 := m0 hy270
                clear hy270
                have H' := m0 H
                clear H
                have p256 : 0 ≤ (x33_1 : Int) := od
                have q256 : x33_1 < (t245.length : Int) := od
                obtain ⟨ad256, e256, hx256_0⟩ := Kd.at_int (Kd.V_reads' HO_31.out).2.2 x33_1 p256 q256
                cases e256
                replace p256 := eq_true p256
                replace q256 := eq_true q256
                try go_wp2_with (first | ((with_reducible refine gate_dst (N := 10) rfl ?_); refine be 10 3 #[.int .i64 0] ?_; intro gb257 hg w42 hbox hb; replace HO_6 := ve HO_6 hg hb; replace HO_8 := m0 (Kd.R_below (Kd.R_elderB (br HO_8.out) gb257 (Nat.le_of_eq hg.symm)) hb); replace HO_31 := ve HO_31 hg hb; have BK257 := m0 hbox; have GE257 := gw w hg; replace HB := sb HB hb; have NB244_257 := nl BK244 hg; have NB257_244 := ng (nl BK244 hg); replace BK244 := bb BK244 hb; clear hb hbox hg; have hnb43 := NB257_244.out; have hnc43 := NB244_257.out; obtain ⟨_, _⟩ := b1 BK257))
                replace HO_6 : Aside0 (Kd.V (Kd.int .i64) 3 (w42.setCell ⟨gb257, 0, none⟩ (.int .i64 (rd t245 x33_1))) w.heap.size (fun k_ => some k_ ≠ (u8 : Value).ownBlock ∧ k_ ≠ gb244 ∧ k_ ≠ gb257) (.slice (some ad256) t245.length co15) t245) := ⟨by (with_reducible repeat (first | apply Kd.V_alloc | apply Kd.V_drewN | apply Kd.V_drew)); exact Kd.V_mono (Kd.V_far (p := ⟨gb257, 0, none⟩) (Kd.V_mono HO_6.out (fun k_ hk => (⟨hk, hk.2⟩ : _ ∧ k_ ≠ gb257))) (fun _ hk => hk.2) (.int .i64 (rd t245 x33_1))) (fun _ hk => ⟨hk.1.1.1, ⟨hk.1.1.2, hk.1.2⟩⟩)⟩
                replace HO_8 : Aside0 (Kd.R (Kd.int .i64) 3 (w42.setCell ⟨gb257, 0, none⟩ (.int .i64 (rd t245 x33_1))) w.heap.size (fun k_ => k_ ≠ gb257) u8 x8_1) := ⟨by (with_reducible repeat (first | apply Kd.R_alloc | apply Kd.R_drewN | apply Kd.R_drew)); exact Kd.R_mono (Kd.R_far (p := ⟨gb257, 0, none⟩) (Kd.R_mono HO_8.out (fun k_ hk => (⟨hk, hk.2⟩ : _ ∧ k_ ≠ gb257))) (fun _ hk => hk.2) (.int .i64 (rd t245 x33_1))) (fun _ hk => hk.1.2)⟩
                replace HO_31 : Aside0 (Kd.V (Kd.int .i64) 3 (w42.setCell ⟨gb257, 0, none⟩ (.int .i64 (rd t245 x33_1))) w.heap.size (fun k_ => some k_ ≠ (u8 : Value).ownBlock ∧ k_ ≠ gb244 ∧ k_ ≠ gb257) (.slice (some ad256) t245.length co15) t245) := ⟨by (with_reducible repeat (first | apply Kd.V_alloc | apply Kd.V_drewN | apply Kd.V_drew)); exact Kd.V_mono (Kd.V_far (p := ⟨gb257, 0, none⟩) (Kd.V_mono HO_31.out (fun k_ hk => (⟨hk, hk.2⟩ : _ ∧ k_ ≠ gb257))) (fun _ hk => hk.2) (.int .i64 (rd t245 x33_1))) (fun _ hk => ⟨hk.1.1.1, ⟨hk.1.1.2, hk.1.2⟩⟩)⟩
                replace BK244 : Aside0 ((w42.setCell ⟨gb257, 0, none⟩ (.int .i64 (rd t245 x33_1))).heap[gb244]? = some (.cells #[.int .i64 a1_0, .int .i64 a1_1] 57 (0, 0))) := ⟨bq BK244.out⟩
                replace BK257 : Aside0 ((w42.setCell ⟨gb257, 0, none⟩ (.int .i64 (rd t245 x33_1))).heap[gb257]? = some (.cells #[.int .i64 (rd t245 x33_1)] 3 (0, 0))) := ⟨bq BK257.out⟩
                replace HB : Aside0 (Below w.heap.size w (w42.setCell ⟨gb257, 0, none⟩ (.int .i64 (rd t245 x33_1)))) := ⟨bz⟩
                generalize (w42.setCell ⟨gb257, 0, none⟩ (.int .i64 (rd t245 x33_1))) = w45 at HO_6 HO_8 HO_31 BK244 BK257 HB ⊢
                replace HO_6 := m0 (Kd.V_drew HO_6.out); replace HO_8 := m0 (Kd.R_drew HO_8.out); replace HO_31 := m0 (Kd.V_drew HO_31.out); replace BK244 := bd BK244; replace BK257 := bd BK257; replace HB := sd HB
                have q47 : (x33_1 : Int) ≤ ((t245.length : Int) : Int) := od
                obtain ⟨i047, hi047, _, hsz47, _⟩ := info_parts info3
                have hroom47 : t245.length ≤ co15 := (Kd.V_reads' HO_6.out).2.1
                have hC47 : Kd.F (Kd.int .i64) _ _ (some ad256) t245.length t245 := (Kd.V_at (base := w.heap.size) HO_6.out).2.2
                have ql47 : ((ji19) : Int) ≤ (x33_1 : Int) := od
                have q047 : (0 : Int) ≤ ((ji19) : Int) := od
                have hcut47 := cut_mid (P := Tryd.prog) 120 3 .i64 .i64 Tryd.underlying120 hi047 1 hsz47 (some ad256) t245.length co15 (ji19) x33_1 q047 ql47 q47 hroom47
                have hr47 := Kd.F_mid (lo := ((ji19) : Int).toNat) (hi := (x33_1 : Int).toNat) (c := co15) hC47 (by omega) (by omega) hroom47
                obtain ⟨A47, hA47⟩ : ∃ A1, A1 = (if co15 = ((ji19) : Int).toNat then (some ad256) else ((some ad256) : Option Addr).map (·.add (((ji19) : Int).toNat * 1))) := ⟨_, rfl⟩
                obtain ⟨c47, hc47⟩ : ∃ c1, c1 = co15 - ((ji19) : Int).toNat := ⟨_, rfl⟩
                have hy47 : y258.length = (x33_1 : Int).toNat - ((ji19) : Int).toNat := (by rw [Ny258.out, List.length_drop, List.length_take] <;> omega)
                rw [show ((t245).take (x33_1 : Int).toNat).drop ((ji19) : Int).toNat = y258 from Ny258.out.symm] at hr47
                replace hr47 : Kd.F (Kd.int .i64) _ _ A47 y258.length y258 := (by rw [hA47]; exact hr47)
                rw [← hy47, ← hA47, ← hc47] at hcut47
                have HO262 := m0 (show Kd.V (Kd.int .i64) 3 _ w.heap.size _ (.slice A47 y258.length c47) y258 from Kd.V_mk (by rw [hy47, hc47]; exact Nat.sub_le_sub_right (Nat.le_trans (by omega) hroom47) _) hr47)
                have HC262 := m0 (show y258.length ≤ c47 from by rw [hy47, hc47]; exact Nat.sub_le_sub_right (Nat.le_trans (by omega) hroom47) _)
                clear hr47 hC47 hroom47 hi047 hsz47 hc47
                have KY47 := m0 hy47
                have KA47 := m0 hA47
                clear hy47 hA47
                replace q47 := eq_true q47
                have q48 : ((ji23) : Int) ≤ ((t245.length : Int) : Int) := od
                obtain ⟨i048, hi048, _, hsz48, _⟩ := info_parts info3
                have hroom48 : t245.length ≤ co15 := (Kd.V_reads' HO_6.out).2.1
                have hC48 : Kd.F (Kd.int .i64) _ _ (some ad256) t245.length t245 := (Kd.V_at (base := w.heap.size) HO_6.out).2.2
                have ql48 : (x33_1 : Int) ≤ ((ji23) : Int) := od
                have q048 : (0 : Int) ≤ (x33_1 : Int) := od
                have hcut48 := cut_mid (P := Tryd.prog) 120 3 .i64 .i64 Tryd.underlying120 hi048 1 hsz48 (some ad256) t245.length co15 x33_1 (ji23) q048 ql48 q48 hroom48
                have hr48 := Kd.F_mid (lo := (x33_1 : Int).toNat) (hi := ((ji23) : Int).toNat) (c := co15) hC48 (by omega) (by omega) hroom48
                obtain ⟨A48, hA48⟩ : ∃ A1, A1 = (if co15 = (x33_1 : Int).toNat then (some ad256) else ((some ad256) : Option Addr).map (·.add ((x33_1 : Int).toNat * 1))) := ⟨_, rfl⟩
                obtain ⟨c48, hc48⟩ : ∃ c1, c1 = co15 - (x33_1 : Int).toNat := ⟨_, rfl⟩
                have hy48 : y263.length = ((ji23) : Int).toNat - (x33_1 : Int).toNat := (by rw [Ny263.out, List.length_drop, List.length_take] <;> omega)
                rw [show ((t245).take ((ji23) : Int).toNat).drop (x33_1 : Int).toNat = y263 from Ny263.out.symm] at hr48
                replace hr48 : Kd.F (Kd.int .i64) _ _ A48 y263.length y263 := (by rw [hA48]; exact hr48)
                rw [← hy48, ← hA48, ← hc48] at hcut48
                have HO267 := m0 (show Kd.V (Kd.int .i64) 3 _ w.heap.size _ (.slice A48 y263.length c48) y263 from Kd.V_mk (by rw [hy48, hc48]; exact Nat.sub_le_sub_right (Nat.le_trans (by omega) hroom48) _) hr48)
                have HC267 := m0 (show y263.length ≤ c48 from by rw [hy48, hc48]; exact Nat.sub_le_sub_right (Nat.le_trans (by omega) hroom48) _)
                clear hr48 hC48 hroom48 hi048 hsz48 hc48
                have KY48 := m0 hy48
                have KA48 := m0 hA48
                clear hy48 hA48
                replace q48 := eq_true q48
                refine start_ (n := 21) (S := fun w' => w'.cell? ⟨gb244, 0, none⟩ = some (.int .i64 a1_0) ∧ w'.cell? ⟨gb244, 1, none⟩ = some (.int .i64 a1_1)) (ds := []) #[false, false, false, false, false, false, false, false, false, false, false, false, false, false, false, false, false, false, false, false, false] (by kernel_rfl) rfl rfl cz (fun hH => ?_); refine with_tabW L_DetectionsIn.tab9 L_DetectionsIn.bits9 (fun HT_ HW_ => ?_)
                generalize w45.drew = w46 at HO_6 HO_8 HO_31 BK244 BK257 HB HO262 HO267 hH ⊢
                refine pZ 0 (some 38) (bs 21 1) HT_ ?_
                refine pZ 1 (some 39) (bs 21 3) HT_ ?_
                refine pZ 2 (some 40) (bs 21 7) HT_ ?_
                refine pZ 6 (some 44) (bs 21 71) HT_ ?_
                refine pZ 8 (some 46) (bs 21 327) HT_ ?_
                refine pZ 9 (some 47) (bs 21 839) HT_ ?_
                refine pZ 10 (some 48) (bs 21 1863) HT_ ?_
                refine pZ 11 (some 49) (bs 21 3911) HT_ ?_
                refine pZ 12 (some 50) (bs 21 8007) HT_ ?_
                refine pZ 13 (some 51) (bs 21 16199) HT_ ?_
                refine takeZ 3 (some 41) (bs 21 16207) (take_ofW HT_.out HW_.out (by kernel_rfl)) hH ?_
                refine pZ 4 (some 42) (bs 21 16223) HT_ ?_
                refine pZ 5 (some 43) (bs 21 16255) HT_ ?_
                refine pZ 7 (some 45) (bs 21 16383) HT_ ?_
                refine pZ 19 (some 11) (bs 21 540671) HT_ ?_
                refine takeZ 14 (some 52) (bs 21 557055) (take_ofW HT_.out HW_.out (by kernel_rfl)) hH ?_
                refine pZ 15 (some 53) (bs 21 589823) HT_ ?_
                refine pZ 16 (some 54) (bs 21 655359) HT_ ?_
                refine pZ 17 (some 55) (bs 21 786431) HT_ ?_
                refine pZ 18 (some 56) (bs 21 1048575) HT_ ?_
                refine pZ 20 (some 12) (bs 21 2097151) HT_ ?_
                refine done_ (done_of HT_.out (by kernel_rfl)) ?_
                try go_wp2
                replace HO_6 := m0 (Kd.V_drew HO_6.out); replace HO_8 := m0 (Kd.R_drew HO_8.out); replace HO_31 := m0 (Kd.V_drew HO_31.out); replace HO262 := m0 (Kd.V_drew HO262.out); replace HO267 := m0 (Kd.V_drew HO267.out); replace BK244 := bd BK244; replace BK257 := bd BK257; replace HB := sd HB
                refine start_ (n := 16) (S := fun w' => w'.cell? ⟨gb257, 0, none⟩ = some (.int .i64 (rd t245 x33_1)) ∧ w'.cell? ⟨gb244, 0, none⟩ = some (.int .i64 a1_0) ∧ w'.cell? ⟨gb244, 1, none⟩ = some (.int .i64 a1_1)) (ds := []) #[false, false, false, false, false, false, false, false, false, false, false, false, false, false, false, false] (by kernel_rfl) rfl rfl cz (fun hH => ?_); refine with_tabW L_DetectionsIn.tab10 L_DetectionsIn.bits10 (fun HT_ HW_ => ?_)
                generalize w46.drew = w49 at HO_6 HO_8 HO_31 HO262 HO267 BK244 BK257 HB hH ⊢
                refine pZ 1 (some 58) (bs 16 2) HT_ ?_
                refine takeZ 0 (some 57) (bs 16 3) (take_ofW HT_.out HW_.out (by kernel_rfl)) hH ?_
                refine takeZ 2 (some 59) (bs 16 7) (take_ofW HT_.out HW_.out (by kernel_rfl)) hH ?_
                refine pZ 3 (some 60) (bs 16 15) HT_ ?_
                refine pZ 4 (some 61) (bs 16 31) HT_ ?_
                refine pZ 6 (some 63) (bs 16 95) HT_ ?_
                refine takeZ 5 (some 62) (bs 16 127) (take_ofW HT_.out HW_.out (by kernel_rfl)) hH ?_
                refine oneZ 7 (some 64) (bs 16 255) (one_of HT_.out (by kernel_rfl)) fun K hK => ?_
                refine gz Tryd.func106 #[.slice A48 y263.length c48] ?_
                with_reducible refine (Sp_int_106.calls k1 _ _ y263 t268 _ ?side1 ?side2 A28.out).mono ?_
                (case side1 => exact bc (Kd.V_reads' HO267.out).2.2)
                (case side2 => exact (Kd.V_reads' HO267.out).2.1)
                rintro e w50 ⟨rfl, hb⟩
                refine ⟨_, rfl, ?_⟩
                replace HO_6 := vb HO_6 hb; replace HO_8 := rb HO_8 hb; replace HO_31 := vb HO_31 hb; replace HO262 := vb HO262 hb; replace HO267 := vb HO267 hb; replace BK244 := bb BK244 hb; replace BK257 := bb BK257 hb; replace HB := sb HB hb
                (try clear hb)
                refine hK.out _ _ cz (fun hH => ?_)
                clear hK K
                refine norm_ (a' := ?_) ?_ ?_
                rotate_left
                ·show Act.put _ (some 64) _ = _
                 exact pz
                refine pZ 8 (some 65) (bs 16 511) HT_ ?_
                refine pZ 9 (some 66) (bs 16 1023) HT_ ?_
                refine pZ 10 (some 67) (bs 16 2047) HT_ ?_
                refine pZ 11 (some 68) (bs 16 4095) HT_ ?_
                refine pZ 12 (some 69) (bs 16 8191) HT_ ?_
                refine oneZ 13 (some 70) (bs 16 16383) (one_of HT_.out (by kernel_rfl)) fun K hK => ?_
                refine gz Tryd.func107 #[.slice A47 y258.length c47, .func (.func 108) #[] #[.pointer (some ⟨gb257, 0, none⟩)]] ?_
                with_reducible refine (L_ContainsFunc_ge.calls _ _ y258 gb257 (rd t245 x33_1) false _ ?side1 ?side2 ?side3 A30.out).mono ?_
                (case side1 => exact bc (Kd.V_reads' HO262.out).2.2)
                (case side2 => exact (Kd.V_reads' HO262.out).2.1)
                (case side3 => exact (bk BK257.out))
                rintro e w' ⟨rfl, ⟨nd, rfl⟩⟩
                refine ⟨_, rfl, ?_⟩
                refine hK.out _ _ cz (fun hH => ?_)
                clear hK K
                refine norm_ (a' := ?_) ?_ ?_
                rotate_left
                ·show Act.put _ (some 70) _ = _
                 exact pz
                refine pZ 14 (some 71) (bs 16 32767) HT_ ?_
                refine pZ 15 (some 72) (bs 16 65535) HT_ ?_
                refine done_ (done_of HT_.out (by kernel_rfl)) ?_
                try go_wp2_with (first | ((with_reducible refine gate_builtin (b := .append) (xs := #[.tmp 73, .tmp 75]) rfl ?_); at_builtin; refine Kd.R_append (Kd.int .i64) (w0 := w) w.heap.size rfl (.tmp 73) (.tmp 75) 22 3 (.int .i64 0) 8 rfl Tryd.underlying22 info3 rfl (by decide) (by omega) u8 x8_1 x33_1 [.int .i64 x33_1] (fun k_ => k_ ≠ gb257) (fun _ => False) rfl rfl ?aP (fun _ hk => hk.elim) ?aF ?aO ?aB ?aS ?aL ?_; (case aP => exact rfl); (case aB => exact bz); (case aF => exact (fun k_ hk => Kd.freshB (g := gb257) (o := .cells #[.int .i64 (rd t245 x33_1)] 3 (0, 0)) (bk BK257.out) k_ hk)); (case aO => exact (br HO_8.out)); (case aS => exact (below_size bz)); (case aL => have := LMc41.out; omega); intro v271 w51 ho hb hg hat; rw [← Ny270.out] at ho; have n0_ := m0 (Kd.V_afterv (ok := (fun k_ => k_ ≠ gb244 ∧ k_ ≠ gb257)) (by (with_reducible repeat (first | apply Kd.V_alloc | apply Kd.V_drewN | apply Kd.V_drew)); exact Kd.V_mono HO_6.out (fun _ hk => ⟨⟨hk.2.1, hk.2.2⟩, hk.1⟩)) hg hat); have n1_ := m0 (Kd.V_afterv (ok := (fun k_ => k_ ≠ gb244 ∧ k_ ≠ gb257)) (by (with_reducible repeat (first | apply Kd.V_alloc | apply Kd.V_drewN | apply Kd.V_drew)); exact Kd.V_mono HO_31.out (fun _ hk => ⟨⟨hk.2.1, hk.2.2⟩, hk.1⟩)) hg hat); have n2_ := m0 (blk_grown (g := gb244) (o := .cells #[.int .i64 a1_0, .int .i64 a1_1] 57 (0, 0)) (bk BK244.out) hg (Kd.R_ne HO_8.out BK244.out (by decide))); have n3_ := m0 (blk_grown (g := gb257) (o := .cells #[.int .i64 (rd t245 x33_1)] 3 (0, 0)) (bk BK257.out) hg (Kd.R_away HO_8.out (fun _ hk => hk))); have n4_ := m0 (Kd.V_afterv (ok := (fun k_ => k_ ≠ gb244 ∧ k_ ≠ gb257)) (by (with_reducible repeat (first | apply Kd.V_alloc | apply Kd.V_drewN | apply Kd.V_drew)); exact Kd.V_mono HO262.out (fun _ hk => ⟨⟨hk.2.1, hk.2.2⟩, hk.1⟩)) hg hat); have n5_ := m0 (Kd.V_afterv (ok := (fun k_ => k_ ≠ gb244 ∧ k_ ≠ gb257)) (by (with_reducible repeat (first | apply Kd.V_alloc | apply Kd.V_drewN | apply Kd.V_drew)); exact Kd.V_mono HO267.out (fun _ hk => ⟨⟨hk.2.1, hk.2.2⟩, hk.1⟩)) hg hat); have n6_ := m0 (hb); have n7_ := m0 (ho); clear HO_6; clear HO_31; clear BK244; clear BK257; clear HO262; clear HO267; clear HB; clear HO_8; have HO_6 := n0_; have HO_31 := n1_; have BK244 := n2_; have BK257 := n3_; have HO262 := n4_; have HO267 := n5_; have HB := n6_; have HO272 := n7_; clear n0_ n1_ n2_ n3_ n4_ n5_ n6_ n7_; clear ho hb hg hat))
                go_roundg k1
                case measure => have := HK1.out; omega
                case rel => exact ⟨(y270), (wrap64 (x33_1 + 1)), (by first | rfl | (simp; done) | (simp [*]; done)), H', ⟨by have := HK1.out; omega⟩, ⟨by (with_reducible repeat (first | apply Kd.V_alloc | apply Kd.V_drewN | apply Kd.V_drew)); exact Kd.V_mono HO_6.out (fun _ hk => ⟨hk.2, hk.1.1⟩)⟩, ⟨by (with_reducible repeat (first | apply Kd.R_alloc | apply Kd.R_drewN | apply Kd.R_drew)); exact Kd.R_mono HO272.out (fun _ hk => trivial)⟩, ⟨by (with_reducible repeat (first | apply Kd.V_alloc | apply Kd.V_drewN | apply Kd.V_drew)); exact Kd.V_mono HO_31.out (fun _ hk => ⟨hk.2, hk.1.1⟩)⟩, ⟨bk BK244.out⟩, ⟨bz⟩⟩
               ·rw [if_neg c41] at H
                exact absurd H (by simp)
             ·rw [if_neg c29] at H
              have c29b0 := beq_eq_false_iff_ne.mpr c29
              have c29b1 := bne_iff_ne.mpr c29
              have H' := m0 H
              clear H
              have p256 : 0 ≤ (x33_1 : Int) := od
              have q256 : x33_1 < (t245.length : Int) := od
              obtain ⟨ad256, e256, hx256_0⟩ := Kd.at_int (Kd.V_reads' HO_31.out).2.2 x33_1 p256 q256
              cases e256
              replace p256 := eq_true p256
              replace q256 := eq_true q256
              try go_wp2_with (first | ((with_reducible refine gate_dst (N := 10) rfl ?_); refine be 10 3 #[.int .i64 0] ?_; intro gb257 hg w52 hbox hb; replace HO_6 := ve HO_6 hg hb; replace HO_8 := m0 (Kd.R_below (Kd.R_elderB (br HO_8.out) gb257 (Nat.le_of_eq hg.symm)) hb); replace HO_31 := ve HO_31 hg hb; have BK257 := m0 hbox; have GE257 := gw w hg; replace HB := sb HB hb; have NB244_257 := nl BK244 hg; have NB257_244 := ng (nl BK244 hg); replace BK244 := bb BK244 hb; clear hb hbox hg; have hnb53 := NB257_244.out; have hnc53 := NB244_257.out; obtain ⟨_, _⟩ := b1 BK257))
              replace HO_6 : Aside0 (Kd.V (Kd.int .i64) 3 (w52.setCell ⟨gb257, 0, none⟩ (.int .i64 (rd t245 x33_1))) w.heap.size (fun k_ => some k_ ≠ (u8 : Value).ownBlock ∧ k_ ≠ gb244 ∧ k_ ≠ gb257) (.slice (some ad256) t245.length co15) t245) := ⟨by (with_reducible repeat (first | apply Kd.V_alloc | apply Kd.V_drewN | apply Kd.V_drew)); exact Kd.V_mono (Kd.V_far (p := ⟨gb257, 0, none⟩) (Kd.V_mono HO_6.out (fun k_ hk => (⟨hk, hk.2⟩ : _ ∧ k_ ≠ gb257))) (fun _ hk => hk.2) (.int .i64 (rd t245 x33_1))) (fun _ hk => ⟨hk.1.1.1, ⟨hk.1.1.2, hk.1.2⟩⟩)⟩
              replace HO_8 : Aside0 (Kd.R (Kd.int .i64) 3 (w52.setCell ⟨gb257, 0, none⟩ (.int .i64 (rd t245 x33_1))) w.heap.size (fun k_ => k_ ≠ gb257) u8 x8_1) := ⟨by (with_reducible repeat (first | apply Kd.R_alloc | apply Kd.R_drewN | apply Kd.R_drew)); exact Kd.R_mono (Kd.R_far (p := ⟨gb257, 0, none⟩) (Kd.R_mono HO_8.out (fun k_ hk => (⟨hk, hk.2⟩ : _ ∧ k_ ≠ gb257))) (fun _ hk => hk.2) (.int .i64 (rd t245 x33_1))) (fun _ hk => hk.1.2)⟩
              replace HO_31 : Aside0 (Kd.V (Kd.int .i64) 3 (w52.setCell ⟨gb257, 0, none⟩ (.int .i64 (rd t245 x33_1))) w.heap.size (fun k_ => some k_ ≠ (u8 : Value).ownBlock ∧ k_ ≠ gb244 ∧ k_ ≠ gb257) (.slice (some ad256) t245.length co15) t245) := ⟨by (with_reducible repeat (first | apply Kd.V_alloc | apply Kd.V_drewN | apply Kd.V_drew)); exact Kd.V_mono (Kd.V_far (p := ⟨gb257, 0, none⟩) (Kd.V_mono HO_31.out (fun k_ hk => (⟨hk, hk.2⟩ : _ ∧ k_ ≠ gb257))) (fun _ hk => hk.2) (.int .i64 (rd t245 x33_1))) (fun _ hk => ⟨hk.1.1.1, ⟨hk.1.1.2, hk.1.2⟩⟩)⟩
              replace BK244 : Aside0 ((w52.setCell ⟨gb257, 0, none⟩ (.int .i64 (rd t245 x33_1))).heap[gb244]? = some (.cells #[.int .i64 a1_0, .int .i64 a1_1] 57 (0, 0))) := ⟨bq BK244.out⟩
              replace BK257 : Aside0 ((w52.setCell ⟨gb257, 0, none⟩ (.int .i64 (rd t245 x33_1))).heap[gb257]? = some (.cells #[.int .i64 (rd t245 x33_1)] 3 (0, 0))) := ⟨bq BK257.out⟩
              replace HB : Aside0 (Below w.heap.size w (w52.setCell ⟨gb257, 0, none⟩ (.int .i64 (rd t245 x33_1)))) := ⟨bz⟩
              generalize (w52.setCell ⟨gb257, 0, none⟩ (.int .i64 (rd t245 x33_1))) = w55 at HO_6 HO_8 HO_31 BK244 BK257 HB ⊢
              replace HO_6 := m0 (Kd.V_drew HO_6.out); replace HO_8 := m0 (Kd.R_drew HO_8.out); replace HO_31 := m0 (Kd.V_drew HO_31.out); replace BK244 := bd BK244; replace BK257 := bd BK257; replace HB := sd HB
              have q57 : (x33_1 : Int) ≤ ((t245.length : Int) : Int) := od
              obtain ⟨i057, hi057, _, hsz57, _⟩ := info_parts info3
              have hroom57 : t245.length ≤ co15 := (Kd.V_reads' HO_6.out).2.1
              have hC57 : Kd.F (Kd.int .i64) _ _ (some ad256) t245.length t245 := (Kd.V_at (base := w.heap.size) HO_6.out).2.2
              have ql57 : ((ji19) : Int) ≤ (x33_1 : Int) := od
              have q057 : (0 : Int) ≤ ((ji19) : Int) := od
              have hcut57 := cut_mid (P := Tryd.prog) 120 3 .i64 .i64 Tryd.underlying120 hi057 1 hsz57 (some ad256) t245.length co15 (ji19) x33_1 q057 ql57 q57 hroom57
              have hr57 := Kd.F_mid (lo := ((ji19) : Int).toNat) (hi := (x33_1 : Int).toNat) (c := co15) hC57 (by omega) (by omega) hroom57
              obtain ⟨A57, hA57⟩ : ∃ A1, A1 = (if co15 = ((ji19) : Int).toNat then (some ad256) else ((some ad256) : Option Addr).map (·.add (((ji19) : Int).toNat * 1))) := ⟨_, rfl⟩
              obtain ⟨c57, hc57⟩ : ∃ c1, c1 = co15 - ((ji19) : Int).toNat := ⟨_, rfl⟩
              have hy57 : y258.length = (x33_1 : Int).toNat - ((ji19) : Int).toNat := (by rw [Ny258.out, List.length_drop, List.length_take] <;> omega)
              rw [show ((t245).take (x33_1 : Int).toNat).drop ((ji19) : Int).toNat = y258 from Ny258.out.symm] at hr57
              replace hr57 : Kd.F (Kd.int .i64) _ _ A57 y258.length y258 := (by rw [hA57]; exact hr57)
              rw [← hy57, ← hA57, ← hc57] at hcut57
              have HO262 := m0 (show Kd.V (Kd.int .i64) 3 _ w.heap.size _ (.slice A57 y258.length c57) y258 from Kd.V_mk (by rw [hy57, hc57]; exact Nat.sub_le_sub_right (Nat.le_trans (by omega) hroom57) _) hr57)
              have HC262 := m0 (show y258.length ≤ c57 from by rw [hy57, hc57]; exact Nat.sub_le_sub_right (Nat.le_trans (by omega) hroom57) _)
              clear hr57 hC57 hroom57 hi057 hsz57 hc57
              have KY57 := m0 hy57
              have KA57 := m0 hA57
              clear hy57 hA57
              replace q57 := eq_true q57
              have q58 : ((ji23) : Int) ≤ ((t245.length : Int) : Int) := od
              obtain ⟨i058, hi058, _, hsz58, _⟩ := info_parts info3
              have hroom58 : t245.length ≤ co15 := (Kd.V_reads' HO_6.out).2.1
              have hC58 : Kd.F (Kd.int .i64) _ _ (some ad256) t245.length t245 := (Kd.V_at (base := w.heap.size) HO_6.out).2.2
              have ql58 : (x33_1 : Int) ≤ ((ji23) : Int) := od
              have q058 : (0 : Int) ≤ (x33_1 : Int) := od
              have hcut58 := cut_mid (P := Tryd.prog) 120 3 .i64 .i64 Tryd.underlying120 hi058 1 hsz58 (some ad256) t245.length co15 x33_1 (ji23) q058 ql58 q58 hroom58
              have hr58 := Kd.F_mid (lo := (x33_1 : Int).toNat) (hi := ((ji23) : Int).toNat) (c := co15) hC58 (by omega) (by omega) hroom58
              obtain ⟨A58, hA58⟩ : ∃ A1, A1 = (if co15 = (x33_1 : Int).toNat then (some ad256) else ((some ad256) : Option Addr).map (·.add ((x33_1 : Int).toNat * 1))) := ⟨_, rfl⟩
              obtain ⟨c58, hc58⟩ : ∃ c1, c1 = co15 - (x33_1 : Int).toNat := ⟨_, rfl⟩
              have hy58 : y263.length = ((ji23) : Int).toNat - (x33_1 : Int).toNat := (by rw [Ny263.out, List.length_drop, List.length_take] <;> omega)
              rw [show ((t245).take ((ji23) : Int).toNat).drop (x33_1 : Int).toNat = y263 from Ny263.out.symm] at hr58
              replace hr58 : Kd.F (Kd.int .i64) _ _ A58 y263.length y263 := (by rw [hA58]; exact hr58)
              rw [← hy58, ← hA58, ← hc58] at hcut58
              have HO267 := m0 (show Kd.V (Kd.int .i64) 3 _ w.heap.size _ (.slice A58 y263.length c58) y263 from Kd.V_mk (by rw [hy58, hc58]; exact Nat.sub_le_sub_right (Nat.le_trans (by omega) hroom58) _) hr58)
              have HC267 := m0 (show y263.length ≤ c58 from by rw [hy58, hc58]; exact Nat.sub_le_sub_right (Nat.le_trans (by omega) hroom58) _)
              clear hr58 hC58 hroom58 hi058 hsz58 hc58
              have KY58 := m0 hy58
              have KA58 := m0 hA58
              clear hy58 hA58
              replace q58 := eq_true q58
              refine start_ (n := 21) (S := fun w' => w'.cell? ⟨gb244, 0, none⟩ = some (.int .i64 a1_0) ∧ w'.cell? ⟨gb244, 1, none⟩ = some (.int .i64 a1_1)) (ds := []) #[false, false, false, false, false, false, false, false, false, false, false, false, false, false, false, false, false, false, false, false, false] (by kernel_rfl) rfl rfl cz (fun hH => ?_); refine with_tabW L_DetectionsIn.tab9 L_DetectionsIn.bits9 (fun HT_ HW_ => ?_)
              generalize w55.drew = w56 at HO_6 HO_8 HO_31 BK244 BK257 HB HO262 HO267 hH ⊢
              refine pZ 0 (some 38) (bs 21 1) HT_ ?_
              refine pZ 1 (some 39) (bs 21 3) HT_ ?_
              refine pZ 2 (some 40) (bs 21 7) HT_ ?_
              refine pZ 6 (some 44) (bs 21 71) HT_ ?_
              refine pZ 8 (some 46) (bs 21 327) HT_ ?_
              refine pZ 9 (some 47) (bs 21 839) HT_ ?_
              refine pZ 10 (some 48) (bs 21 1863) HT_ ?_
              refine pZ 11 (some 49) (bs 21 3911) HT_ ?_
              refine pZ 12 (some 50) (bs 21 8007) HT_ ?_
              refine pZ 13 (some 51) (bs 21 16199) HT_ ?_
              refine takeZ 3 (some 41) (bs 21 16207) (take_ofW HT_.out HW_.out (by kernel_rfl)) hH ?_
              refine pZ 4 (some 42) (bs 21 16223) HT_ ?_
              refine pZ 5 (some 43) (bs 21 16255) HT_ ?_
              refine pZ 7 (some 45) (bs 21 16383) HT_ ?_
              refine pZ 19 (some 11) (bs 21 540671) HT_ ?_
              refine takeZ 14 (some 52) (bs 21 557055) (take_ofW HT_.out HW_.out (by kernel_rfl)) hH ?_
              refine pZ 15 (some 53) (bs 21 589823) HT_ ?_
              refine pZ 16 (some 54) (bs 21 655359) HT_ ?_
              refine pZ 17 (some 55) (bs 21 786431) HT_ ?_
              refine pZ 18 (some 56) (bs 21 1048575) HT_ ?_
              refine pZ 20 (some 12) (bs 21 2097151) HT_ ?_
              refine done_ (done_of HT_.out (by kernel_rfl)) ?_
              try go_wp2
              replace HO_6 := m0 (Kd.V_drew HO_6.out); replace HO_8 := m0 (Kd.R_drew HO_8.out); replace HO_31 := m0 (Kd.V_drew HO_31.out); replace HO262 := m0 (Kd.V_drew HO262.out); replace HO267 := m0 (Kd.V_drew HO267.out); replace BK244 := bd BK244; replace BK257 := bd BK257; replace HB := sd HB
              refine start_ (n := 16) (S := fun w' => w'.cell? ⟨gb257, 0, none⟩ = some (.int .i64 (rd t245 x33_1)) ∧ w'.cell? ⟨gb244, 0, none⟩ = some (.int .i64 a1_0) ∧ w'.cell? ⟨gb244, 1, none⟩ = some (.int .i64 a1_1)) (ds := []) #[false, false, false, false, false, false, false, false, false, false, false, false, false, false, false, false] (by kernel_rfl) rfl rfl cz (fun hH => ?_); refine with_tabW L_DetectionsIn.tab10 L_DetectionsIn.bits10 (fun HT_ HW_ => ?_)
              generalize w56.drew = w59 at HO_6 HO_8 HO_31 HO262 HO267 BK244 BK257 HB hH ⊢
              refine pZ 1 (some 58) (bs 16 2) HT_ ?_
              refine takeZ 0 (some 57) (bs 16 3) (take_ofW HT_.out HW_.out (by kernel_rfl)) hH ?_
              refine takeZ 2 (some 59) (bs 16 7) (take_ofW HT_.out HW_.out (by kernel_rfl)) hH ?_
              refine pZ 3 (some 60) (bs 16 15) HT_ ?_
              refine pZ 4 (some 61) (bs 16 31) HT_ ?_
              refine pZ 6 (some 63) (bs 16 95) HT_ ?_
              refine takeZ 5 (some 62) (bs 16 127) (take_ofW HT_.out HW_.out (by kernel_rfl)) hH ?_
              refine oneZ 7 (some 64) (bs 16 255) (one_of HT_.out (by kernel_rfl)) fun K hK => ?_
              refine gz Tryd.func106 #[.slice A58 y263.length c58] ?_
              with_reducible refine (Sp_int_106.calls k1 _ _ y263 t268 _ ?side1 ?side2 A28.out).mono ?_
              (case side1 => exact bc (Kd.V_reads' HO267.out).2.2)
              (case side2 => exact (Kd.V_reads' HO267.out).2.1)
              rintro e w60 ⟨rfl, hb⟩
              refine ⟨_, rfl, ?_⟩
              replace HO_6 := vb HO_6 hb; replace HO_8 := rb HO_8 hb; replace HO_31 := vb HO_31 hb; replace HO262 := vb HO262 hb; replace HO267 := vb HO267 hb; replace BK244 := bb BK244 hb; replace BK257 := bb BK257 hb; replace HB := sb HB hb
              (try clear hb)
              refine hK.out _ _ cz (fun hH => ?_)
              clear hK K
              refine norm_ (a' := ?_) ?_ ?_
              rotate_left
              ·show Act.put _ (some 64) _ = _
               exact pz
              refine pZ 8 (some 65) (bs 16 511) HT_ ?_
              refine pZ 9 (some 66) (bs 16 1023) HT_ ?_
              refine pZ 10 (some 67) (bs 16 2047) HT_ ?_
              refine pure_ (i := 11) (N := some 68) (v := undef) (a' := ?_) (bs 16 4095) rfl rfl (any_of HT_.out (by kernel_rfl)) (fun _ _ _ h => h) (Or.inr ⟨by rfl, rfl⟩) ?_ ?_
              rotate_left
              ·exact pz
              refine pure_ (i := 12) (N := some 69) (v := undef) (a' := ?_) (bs 16 8191) rfl rfl (any_of HT_.out (by kernel_rfl)) (fun _ _ _ h => h) (Or.inr ⟨by rfl, rfl⟩) ?_ ?_
              rotate_left
              ·exact pz
              refine pure_ (i := 13) (N := some 70) (v := undef) (a' := ?_) (bs 16 16383) rfl rfl (any_of HT_.out (by kernel_rfl)) (fun _ _ _ h => h) (Or.inr ⟨by rfl, rfl⟩) ?_ ?_
              rotate_left
              ·exact pz
              refine pure_ (i := 14) (N := some 71) (v := undef) (a' := ?_) (bs 16 32767) rfl rfl (any_of HT_.out (by kernel_rfl)) (fun _ _ _ h => h) (Or.inr ⟨by rfl, rfl⟩) ?_ ?_
              rotate_left
              ·exact pz
              refine pZ 15 (some 72) (bs 16 65535) HT_ ?_
              refine done_ (done_of HT_.out (by kernel_rfl)) ?_
              try go_wp2
              go_roundg k1
              case measure => have := HK1.out; omega
              case rel => exact ⟨(x8_1), (wrap64 (x33_1 + 1)), (by first | rfl | (simp; done) | (simp [*]; done)), H', ⟨by have := HK1.out; omega⟩, ⟨by (with_reducible repeat (first | apply Kd.V_alloc | apply Kd.V_drewN | apply Kd.V_drew)); exact Kd.V_mono HO_6.out (fun _ hk => ⟨hk.1, hk.2.1⟩)⟩, ⟨by (with_reducible repeat (first | apply Kd.R_alloc | apply Kd.R_drewN | apply Kd.R_drew)); exact Kd.R_mono HO_8.out (fun _ hk => trivial)⟩, ⟨by (with_reducible repeat (first | apply Kd.V_alloc | apply Kd.V_drewN | apply Kd.V_drew)); exact Kd.V_mono HO_31.out (fun _ hk => ⟨hk.1, hk.2.1⟩)⟩, ⟨bk BK244.out⟩, ⟨bz⟩⟩
            ·rw [if_neg c27] at H
             have c27b0 := decide_eq_false c27
             clear c27
             have H' := m0 H
             clear H
             have p256 : 0 ≤ (x33_1 : Int) := od
             have q256 : x33_1 < (t245.length : Int) := od
             obtain ⟨ad256, e256, hx256_0⟩ := Kd.at_int (Kd.V_reads' HO_31.out).2.2 x33_1 p256 q256
             cases e256
             replace p256 := eq_true p256
             replace q256 := eq_true q256
             try go_wp2_with (first | ((with_reducible refine gate_dst (N := 10) rfl ?_); refine be 10 3 #[.int .i64 0] ?_; intro gb257 hg w61 hbox hb; replace HO_6 := ve HO_6 hg hb; replace HO_8 := m0 (Kd.R_below (Kd.R_elderB (br HO_8.out) gb257 (Nat.le_of_eq hg.symm)) hb); replace HO_31 := ve HO_31 hg hb; have BK257 := m0 hbox; have GE257 := gw w hg; replace HB := sb HB hb; have NB244_257 := nl BK244 hg; have NB257_244 := ng (nl BK244 hg); replace BK244 := bb BK244 hb; clear hb hbox hg; have hnb62 := NB257_244.out; have hnc62 := NB244_257.out; obtain ⟨_, _⟩ := b1 BK257))
             replace HO_6 : Aside0 (Kd.V (Kd.int .i64) 3 (w61.setCell ⟨gb257, 0, none⟩ (.int .i64 (rd t245 x33_1))) w.heap.size (fun k_ => some k_ ≠ (u8 : Value).ownBlock ∧ k_ ≠ gb244 ∧ k_ ≠ gb257) (.slice (some ad256) t245.length co15) t245) := ⟨by (with_reducible repeat (first | apply Kd.V_alloc | apply Kd.V_drewN | apply Kd.V_drew)); exact Kd.V_mono (Kd.V_far (p := ⟨gb257, 0, none⟩) (Kd.V_mono HO_6.out (fun k_ hk => (⟨hk, hk.2⟩ : _ ∧ k_ ≠ gb257))) (fun _ hk => hk.2) (.int .i64 (rd t245 x33_1))) (fun _ hk => ⟨hk.1.1.1, ⟨hk.1.1.2, hk.1.2⟩⟩)⟩
             replace HO_8 : Aside0 (Kd.R (Kd.int .i64) 3 (w61.setCell ⟨gb257, 0, none⟩ (.int .i64 (rd t245 x33_1))) w.heap.size (fun k_ => k_ ≠ gb257) u8 x8_1) := ⟨by (with_reducible repeat (first | apply Kd.R_alloc | apply Kd.R_drewN | apply Kd.R_drew)); exact Kd.R_mono (Kd.R_far (p := ⟨gb257, 0, none⟩) (Kd.R_mono HO_8.out (fun k_ hk => (⟨hk, hk.2⟩ : _ ∧ k_ ≠ gb257))) (fun _ hk => hk.2) (.int .i64 (rd t245 x33_1))) (fun _ hk => hk.1.2)⟩
             replace HO_31 : Aside0 (Kd.V (Kd.int .i64) 3 (w61.setCell ⟨gb257, 0, none⟩ (.int .i64 (rd t245 x33_1))) w.heap.size (fun k_ => some k_ ≠ (u8 : Value).ownBlock ∧ k_ ≠ gb244 ∧ k_ ≠ gb257) (.slice (some ad256) t245.length co15) t245) := ⟨by (with_reducible repeat (first | apply Kd.V_alloc | apply Kd.V_drewN | apply Kd.V_drew)); exact Kd.V_mono (Kd.V_far (p := ⟨gb257, 0, none⟩) (Kd.V_mono HO_31.out (fun k_ hk => (⟨hk, hk.2⟩ : _ ∧ k_ ≠ gb257))) (fun _ hk => hk.2) (.int .i64 (rd t245 x33_1))) (fun _ hk => ⟨hk.1.1.1, ⟨hk.1.1.2, hk.1.2⟩⟩)⟩
             replace BK244 : Aside0 ((w61.setCell ⟨gb257, 0, none⟩ (.int .i64 (rd t245 x33_1))).heap[gb244]? = some (.cells #[.int .i64 a1_0, .int .i64 a1_1] 57 (0, 0))) := ⟨bq BK244.out⟩
             replace BK257 : Aside0 ((w61.setCell ⟨gb257, 0, none⟩ (.int .i64 (rd t245 x33_1))).heap[gb257]? = some (.cells #[.int .i64 (rd t245 x33_1)] 3 (0, 0))) := ⟨bq BK257.out⟩
             replace HB : Aside0 (Below w.heap.size w (w61.setCell ⟨gb257, 0, none⟩ (.int .i64 (rd t245 x33_1)))) := ⟨bz⟩
             generalize (w61.setCell ⟨gb257, 0, none⟩ (.int .i64 (rd t245 x33_1))) = w64 at HO_6 HO_8 HO_31 BK244 BK257 HB ⊢
             replace HO_6 := m0 (Kd.V_drew HO_6.out); replace HO_8 := m0 (Kd.R_drew HO_8.out); replace HO_31 := m0 (Kd.V_drew HO_31.out); replace BK244 := bd BK244; replace BK257 := bd BK257; replace HB := sd HB
             have q66 : (x33_1 : Int) ≤ ((t245.length : Int) : Int) := od
             obtain ⟨i066, hi066, _, hsz66, _⟩ := info_parts info3
             have hroom66 : t245.length ≤ co15 := (Kd.V_reads' HO_6.out).2.1
             have hC66 : Kd.F (Kd.int .i64) _ _ (some ad256) t245.length t245 := (Kd.V_at (base := w.heap.size) HO_6.out).2.2
             have ql66 : ((ji19) : Int) ≤ (x33_1 : Int) := od
             have q066 : (0 : Int) ≤ ((ji19) : Int) := od
             have hcut66 := cut_mid (P := Tryd.prog) 120 3 .i64 .i64 Tryd.underlying120 hi066 1 hsz66 (some ad256) t245.length co15 (ji19) x33_1 q066 ql66 q66 hroom66
             have hr66 := Kd.F_mid (lo := ((ji19) : Int).toNat) (hi := (x33_1 : Int).toNat) (c := co15) hC66 (by omega) (by omega) hroom66
             obtain ⟨A66, hA66⟩ : ∃ A1, A1 = (if co15 = ((ji19) : Int).toNat then (some ad256) else ((some ad256) : Option Addr).map (·.add (((ji19) : Int).toNat * 1))) := ⟨_, rfl⟩
             obtain ⟨c66, hc66⟩ : ∃ c1, c1 = co15 - ((ji19) : Int).toNat := ⟨_, rfl⟩
             have hy66 : y258.length = (x33_1 : Int).toNat - ((ji19) : Int).toNat := (by rw [Ny258.out, List.length_drop, List.length_take] <;> omega)
             rw [show ((t245).take (x33_1 : Int).toNat).drop ((ji19) : Int).toNat = y258 from Ny258.out.symm] at hr66
             replace hr66 : Kd.F (Kd.int .i64) _ _ A66 y258.length y258 := (by rw [hA66]; exact hr66)
             rw [← hy66, ← hA66, ← hc66] at hcut66
             have HO262 := m0 (show Kd.V (Kd.int .i64) 3 _ w.heap.size _ (.slice A66 y258.length c66) y258 from Kd.V_mk (by rw [hy66, hc66]; exact Nat.sub_le_sub_right (Nat.le_trans (by omega) hroom66) _) hr66)
             have HC262 := m0 (show y258.length ≤ c66 from by rw [hy66, hc66]; exact Nat.sub_le_sub_right (Nat.le_trans (by omega) hroom66) _)
             clear hr66 hC66 hroom66 hi066 hsz66 hc66
             have KY66 := m0 hy66
             have KA66 := m0 hA66
             clear hy66 hA66
             replace q66 := eq_true q66
             have q67 : ((ji23) : Int) ≤ ((t245.length : Int) : Int) := od
             obtain ⟨i067, hi067, _, hsz67, _⟩ := info_parts info3
             have hroom67 : t245.length ≤ co15 := (Kd.V_reads' HO_6.out).2.1
             have hC67 : Kd.F (Kd.int .i64) _ _ (some ad256) t245.length t245 := (Kd.V_at (base := w.heap.size) HO_6.out).2.2
             have ql67 : (x33_1 : Int) ≤ ((ji23) : Int) := od
             have q067 : (0 : Int) ≤ (x33_1 : Int) := od
             have hcut67 := cut_mid (P := Tryd.prog) 120 3 .i64 .i64 Tryd.underlying120 hi067 1 hsz67 (some ad256) t245.length co15 x33_1 (ji23) q067 ql67 q67 hroom67
             have hr67 := Kd.F_mid (lo := (x33_1 : Int).toNat) (hi := ((ji23) : Int).toNat) (c := co15) hC67 (by omega) (by omega) hroom67
             obtain ⟨A67, hA67⟩ : ∃ A1, A1 = (if co15 = (x33_1 : Int).toNat then (some ad256) else ((some ad256) : Option Addr).map (·.add ((x33_1 : Int).toNat * 1))) := ⟨_, rfl⟩
             obtain ⟨c67, hc67⟩ : ∃ c1, c1 = co15 - (x33_1 : Int).toNat := ⟨_, rfl⟩
             have hy67 : y263.length = ((ji23) : Int).toNat - (x33_1 : Int).toNat := (by rw [Ny263.out, List.length_drop, List.length_take] <;> omega)
             rw [show ((t245).take ((ji23) : Int).toNat).drop (x33_1 : Int).toNat = y263 from Ny263.out.symm] at hr67
             replace hr67 : Kd.F (Kd.int .i64) _ _ A67 y263.length y263 := (by rw [hA67]; exact hr67)
             rw [← hy67, ← hA67, ← hc67] at hcut67
             have HO267 := m0 (show Kd.V (Kd.int .i64) 3 _ w.heap.size _ (.slice A67 y263.length c67) y263 from Kd.V_mk (by rw [hy67, hc67]; exact Nat.sub_le_sub_right (Nat.le_trans (by omega) hroom67) _) hr67)
             have HC267 := m0 (show y263.length ≤ c67 from by rw [hy67, hc67]; exact Nat.sub_le_sub_right (Nat.le_trans (by omega) hroom67) _)
             clear hr67 hC67 hroom67 hi067 hsz67 hc67
             have KY67 := m0 hy67
             have KA67 := m0 hA67
             clear hy67 hA67
             replace q67 := eq_true q67
             refine start_ (n := 21) (S := fun w' => w'.cell? ⟨gb244, 0, none⟩ = some (.int .i64 a1_0) ∧ w'.cell? ⟨gb244, 1, none⟩ = some (.int .i64 a1_1)) (ds := []) #[false, false, false, false, false, false, false, false, false, false, false, false, false, false, false, false, false, false, false, false, false] (by kernel_rfl) rfl rfl cz (fun hH => ?_); refine with_tabW L_DetectionsIn.tab9 L_DetectionsIn.bits9 (fun HT_ HW_ => ?_)
             generalize w64.drew = w65 at HO_6 HO_8 HO_31 BK244 BK257 HB HO262 HO267 hH ⊢
             refine pZ 0 (some 38) (bs 21 1) HT_ ?_
             refine pZ 1 (some 39) (bs 21 3) HT_ ?_
             refine pZ 2 (some 40) (bs 21 7) HT_ ?_
             refine pZ 6 (some 44) (bs 21 71) HT_ ?_
             refine pZ 8 (some 46) (bs 21 327) HT_ ?_
             refine pZ 9 (some 47) (bs 21 839) HT_ ?_
             refine pZ 10 (some 48) (bs 21 1863) HT_ ?_
             refine pZ 11 (some 49) (bs 21 3911) HT_ ?_
             refine pZ 12 (some 50) (bs 21 8007) HT_ ?_
             refine pZ 13 (some 51) (bs 21 16199) HT_ ?_
             refine takeZ 3 (some 41) (bs 21 16207) (take_ofW HT_.out HW_.out (by kernel_rfl)) hH ?_
             refine pZ 4 (some 42) (bs 21 16223) HT_ ?_
             refine pZ 5 (some 43) (bs 21 16255) HT_ ?_
             refine pZ 7 (some 45) (bs 21 16383) HT_ ?_
             refine pZ 19 (some 11) (bs 21 540671) HT_ ?_
             refine takeZ 14 (some 52) (bs 21 557055) (take_ofW HT_.out HW_.out (by kernel_rfl)) hH ?_
             refine pZ 15 (some 53) (bs 21 589823) HT_ ?_
             refine pZ 16 (some 54) (bs 21 655359) HT_ ?_
             refine pZ 17 (some 55) (bs 21 786431) HT_ ?_
             refine pZ 18 (some 56) (bs 21 1048575) HT_ ?_
             refine pZ 20 (some 12) (bs 21 2097151) HT_ ?_
             refine done_ (done_of HT_.out (by kernel_rfl)) ?_
             try go_wp2
             replace HO_6 := m0 (Kd.V_drew HO_6.out); replace HO_8 := m0 (Kd.R_drew HO_8.out); replace HO_31 := m0 (Kd.V_drew HO_31.out); replace HO262 := m0 (Kd.V_drew HO262.out); replace HO267 := m0 (Kd.V_drew HO267.out); replace BK244 := bd BK244; replace BK257 := bd BK257; replace HB := sd HB
             refine start_ (n := 16) (S := fun w' => w'.cell? ⟨gb257, 0, none⟩ = some (.int .i64 (rd t245 x33_1)) ∧ w'.cell? ⟨gb244, 0, none⟩ = some (.int .i64 a1_0) ∧ w'.cell? ⟨gb244, 1, none⟩ = some (.int .i64 a1_1)) (ds := []) #[false, false, false, false, false, false, false, false, false, false, false, false, false, false, false, false] (by kernel_rfl) rfl rfl cz (fun hH => ?_); refine with_tabW L_DetectionsIn.tab10 L_DetectionsIn.bits10 (fun HT_ HW_ => ?_)
             generalize w65.drew = w68 at HO_6 HO_8 HO_31 HO262 HO267 BK244 BK257 HB hH ⊢
             refine pZ 1 (some 58) (bs 16 2) HT_ ?_
             refine takeZ 0 (some 57) (bs 16 3) (take_ofW HT_.out HW_.out (by kernel_rfl)) hH ?_
             refine takeZ 2 (some 59) (bs 16 7) (take_ofW HT_.out HW_.out (by kernel_rfl)) hH ?_
             refine pZ 3 (some 60) (bs 16 15) HT_ ?_
             refine pZ 4 (some 61) (bs 16 31) HT_ ?_
             refine pure_ (i := 5) (N := some 62) (v := undef) (a' := ?_) (bs 16 63) rfl rfl (any_of HT_.out (by kernel_rfl)) (fun _ _ _ h => h) (Or.inr ⟨by rfl, rfl⟩) ?_ ?_
             rotate_left
             ·exact pz
             refine pure_ (i := 6) (N := some 63) (v := undef) (a' := ?_) (bs 16 127) rfl rfl (any_of HT_.out (by kernel_rfl)) (fun _ _ _ h => h) (Or.inr ⟨by rfl, rfl⟩) ?_ ?_
             rotate_left
             ·exact pz
             refine pure_ (i := 7) (N := some 64) (v := undef) (a' := ?_) (bs 16 255) rfl rfl (any_of HT_.out (by kernel_rfl)) (fun _ _ _ h => h) (Or.inr ⟨by rfl, rfl⟩) ?_ ?_
             rotate_left
             ·exact pz
             refine pure_ (i := 8) (N := some 65) (v := undef) (a' := ?_) (bs 16 511) rfl rfl (any_of HT_.out (by kernel_rfl)) (fun _ _ _ h => h) (Or.inr ⟨by rfl, rfl⟩) ?_ ?_
             rotate_left
             ·exact pz
             refine pZ 9 (some 66) (bs 16 1023) HT_ ?_
             refine pZ 10 (some 67) (bs 16 2047) HT_ ?_
             refine pure_ (i := 11) (N := some 68) (v := undef) (a' := ?_) (bs 16 4095) rfl rfl (any_of HT_.out (by kernel_rfl)) (fun _ _ _ h => h) (Or.inr ⟨by rfl, rfl⟩) ?_ ?_
             rotate_left
             ·exact pz
             refine pure_ (i := 12) (N := some 69) (v := undef) (a' := ?_) (bs 16 8191) rfl rfl (any_of HT_.out (by kernel_rfl)) (fun _ _ _ h => h) (Or.inr ⟨by rfl, rfl⟩) ?_ ?_
             rotate_left
             ·exact pz
             refine pure_ (i := 13) (N := some 70) (v := undef) (a' := ?_) (bs 16 16383) rfl rfl (any_of HT_.out (by kernel_rfl)) (fun _ _ _ h => h) (Or.inr ⟨by rfl, rfl⟩) ?_ ?_
             rotate_left
             ·exact pz
             refine pure_ (i := 14) (N := some 71) (v := undef) (a' := ?_) (bs 16 32767) rfl rfl (any_of HT_.out (by kernel_rfl)) (fun _ _ _ h => h) (Or.inr ⟨by rfl, rfl⟩) ?_ ?_
             rotate_left
             ·exact pz
             refine pZ 15 (some 72) (bs 16 65535) HT_ ?_
             refine done_ (done_of HT_.out (by kernel_rfl)) ?_
             try go_wp2
             go_roundg k1
             case measure => have := HK1.out; omega
             case rel => exact ⟨(x8_1), (wrap64 (x33_1 + 1)), (by first | rfl | (simp; done) | (simp [*]; done)), H', ⟨by have := HK1.out; omega⟩, ⟨by (with_reducible repeat (first | apply Kd.V_alloc | apply Kd.V_drewN | apply Kd.V_drew)); exact Kd.V_mono HO_6.out (fun _ hk => ⟨hk.1, hk.2.1⟩)⟩, ⟨by (with_reducible repeat (first | apply Kd.R_alloc | apply Kd.R_drewN | apply Kd.R_drew)); exact Kd.R_mono HO_8.out (fun _ hk => trivial)⟩, ⟨by (with_reducible repeat (first | apply Kd.V_alloc | apply Kd.V_drewN | apply Kd.V_drew)); exact Kd.V_mono HO_31.out (fun _ hk => ⟨hk.1, hk.2.1⟩)⟩, ⟨bk BK244.out⟩, ⟨bz⟩⟩
           ·rw [if_neg c26] at H
            exact absurd H (by simp)
          ·rw [if_neg c25] at H
           exact absurd H (by simp)
         ·rw [if_neg c22] at H
          exact absurd H (by simp)
        ·rw [if_neg c21] at H
         exact absurd H (by simp)
       ·rw [if_neg c20] at H
        exact absurd H (by simp)
      ·rw [if_neg c18] at H
       exact absurd H (by simp)
     ·rw [if_neg c17] at H
      exact absurd H (by simp)
    ·rw [if_neg c16] at H
     have c16b0 := decide_eq_false c16
     clear c16
     simp only [Option.some.injEq, Prod.mk.injEq] at H
     obtain ⟨rfl, rfl⟩ := H
     go_wp2
     go_ret2
     exact ⟨_, by first | rfl | (simp [errW_none, errW_some] <;> rfl) | (simp [*, errW_none, errW_some] <;> rfl), by (with_reducible repeat (first | apply Kd.R_alloc | apply Kd.R_drewN | apply Kd.R_drew)); exact HO_8.out, by repeat (first | (with_reducible first | exact HB.out | apply below_alloc | apply pw_below_drewN | apply below_drew1 | refine below_set ?_ GE244.out) | exact HB.out)⟩
 ·rw [if_neg c8] at H
  exact absurd H (by simp)
end
section
def Bs_Ints.l0 : Nat → List Int → List Int → Int → Option (Bool)
 | 0, _, _, _ => none
 | k + 1, x0, x1, x5 => if x5 < (x0.length : Int) then (if 0 ≤ x5 then (if x5 < (x1.length : Int) then (if (rd x0 x5) = (rd x1 x5) then (Bs_Ints.l0 k x0 x1 (wrap64 (x5 + 1))) else (some false)) else (none)) else (none)) else (some true)
def Bs_Ints.f (k : Nat) (l0 : List Int) (l1 : List Int) : Option (Bool) := if (l0.length : Int) = (l1.length : Int) then (Bs_Ints.l0 k l0 l1 0) else (some false)
theorem Bs_Ints.mono_l : ∀ k, (∀ y0 y1 y2, LeO (Bs_Ints.l0 k y0 y1 y2) (Bs_Ints.l0 (k + 1) y0 y1 y2))
 | 0 => fun _ _ _ r h => by simp [Bs_Ints.l0] at h
 | k + 1 => by
  have ih0 := Bs_Ints.mono_l k
  ·intro y0 y1 y2
   unfold Bs_Ints.l0
   repeat' with_reducible first
    | exact ih0 ..
    | exact LeO.refl ..
    | exact LeO.none ..
    | refine LeO.ite ?_ ?_
    | refine LeO.bind ?_ (fun _ => ?_)
theorem Bs_Ints.mono : ∀ a0 a1 k, LeO (Bs_Ints.f k a0 a1) (Bs_Ints.f (k + 1) a0 a1) := by
 intro a0 a1 k
 have ih0 := Bs_Ints.mono_l k
 unfold Bs_Ints.f
 repeat' with_reducible first
  | exact ih0 ..
  | exact LeO.refl ..
  | exact LeO.none ..
  | refine LeO.ite ?_ ?_
  | refine LeO.bind ?_ (fun _ => ?_)
theorem Bs_Ints.calls (k : Nat) (A0 : Option Addr) (c0 : Nat) (l0 : List Int) (A1 : Option Addr) (c1 : Nat) (l1 : List Int) (r : Bool) (w : World) (hr0 : Kd.C (Kd.int .i64) w A0 l0.length l0) (hc0 : l0.length ≤ c0) (hr1 : Kd.C (Kd.int .i64) w A1 l1.length l1) (hc1 : l1.length ≤ c1) (h : Bs_Ints.f k l0 l1 = some r) :
  Calls Tryd.prog 57 #[.slice A0 l0.length c0, .slice A1 l1.length c1] w fun e w' => e = .returned (.bool r) ∧ Drawn0 w w' := by
 have HR0 := m0 hr0
 have HC0 := m0 hc0
 clear hr0 hc0
 have HR1 := m0 hr1
 have HC1 := m0 hc1
 clear hr1 hc1
 have H : (if (l0.length : Int) = (l1.length : Int) then (Bs_Ints.l0 k l0 l1 0) else (some false)) = some r := h
 clear h
 by_cases c3 : (l0.length : Int) = (l1.length : Int)
 ·rw [if_pos c3] at H
  have c3b0 := beq_iff_eq.mpr c3
  have c3b1 := bne_eq_false_iff_eq.mpr c3
  have c3b2 : (l0.length == l1.length) = true := by first | simpa using c3 | (simp at c3 ⊢; omega)
  clear c3
  have H' := m0 H
  clear H
  go_enter Tryd.func57, Tryd.ntmps57
  go_wp2
  repeat (go_quiet (fail); try go_wp2)
  go_loopg [5] k (fun kq v5 w' => ∃ (x5_1 : Int), v5 = .int .i64 x5_1 ∧ Aside0 (Bs_Ints.l0 kq l0 l1 x5_1 = some r) ∧ Aside0 (kq ≤ k) ∧ Drawn0 w w')
  case atStart => exact ⟨(0), (by first | rfl | (simp; done) | (simp [*]; done)), H', ⟨Nat.le_refl _⟩, by repeat (first | exact Drawn0.refl _ | apply Drawn0.step)⟩
  case round =>
   clear H'
   obtain ⟨x5_1, rfl, HA, HK1, ⟨m1, rfl⟩⟩ := hrel
   cases gk with
   | zero => exact absurd HA.out (by simp [Bs_Ints.l0])
   | succ k1 =>
    have H := HA.out
    clear HA
    simp only [Bs_Ints.l0] at H
    by_cases c4 : x5_1 < (l0.length : Int)
    ·rw [if_pos c4] at H
     have c4b0 := decide_eq_true c4
     clear c4
     by_cases c5 : 0 ≤ x5_1
     ·rw [if_pos c5] at H
      have c5b0 := decide_eq_true c5
      clear c5
      by_cases c6 : x5_1 < (l1.length : Int)
      ·rw [if_pos c6] at H
       have c6b0 := decide_eq_true c6
       clear c6
       by_cases c7 : (rd l0 x5_1) = (rd l1 x5_1)
       ·rw [if_pos c7] at H
        have c7b0 := beq_iff_eq.mpr c7
        have c7b1 := bne_eq_false_iff_eq.mpr c7
        clear c7
        have H' := m0 H
        clear H
        have p298 : 0 ≤ (x5_1 : Int) := od
        have q298 : x5_1 < (l0.length : Int) := od
        obtain ⟨ad298, e298, hx298_0⟩ := Kd.at_int HR0.out x5_1 p298 q298
        cases e298
        replace p298 := eq_true p298
        replace q298 := eq_true q298
        have p299 : 0 ≤ (x5_1 : Int) := od
        have q299 : x5_1 < (l1.length : Int) := od
        obtain ⟨ad299, e299, hx299_0⟩ := Kd.at_int HR1.out x5_1 p299 q299
        cases e299
        replace p299 := eq_true p299
        replace q299 := eq_true q299
        go_wp2
        repeat (go_quiet (fail); try go_wp2)
        go_roundg k1
        case measure => have := HK1.out; omega
        case rel => exact ⟨(wrap64 (x5_1 + 1)), (by first | rfl | (simp; done) | (simp [*]; done)), H', ⟨by have := HK1.out; omega⟩, by repeat (first | exact Drawn0.refl _ | apply Drawn0.step)⟩
       ·rw [if_neg c7] at H
        have c7b0 := beq_eq_false_iff_ne.mpr c7
        have c7b1 := bne_iff_ne.mpr c7
        obtain rfl := Option.some.inj H
        have p298 : 0 ≤ (x5_1 : Int) := od
        have q298 : x5_1 < (l0.length : Int) := od
        obtain ⟨ad298, e298, hx298_0⟩ := Kd.at_int HR0.out x5_1 p298 q298
        cases e298
        replace p298 := eq_true p298
        replace q298 := eq_true q298
        have p299 : 0 ≤ (x5_1 : Int) := od
        have q299 : x5_1 < (l1.length : Int) := od
        obtain ⟨ad299, e299, hx299_0⟩ := Kd.at_int HR1.out x5_1 p299 q299
        cases e299
        replace p299 := eq_true p299
        replace q299 := eq_true q299
        go_wp2
        repeat (go_quiet (fail); try go_wp2)
        go_ret
        exact ⟨by first | rfl | (simp; done) | (simp [*]; done), by repeat (first | exact Drawn0.refl _ | apply Drawn0.step)⟩
      ·rw [if_neg c6] at H
       exact absurd H (by simp)
     ·rw [if_neg c5] at H
      exact absurd H (by simp)
    ·rw [if_neg c4] at H
     have c4b0 := decide_eq_false c4
     clear c4
     obtain rfl := Option.some.inj H
     go_wp2
     repeat (go_quiet (fail); try go_wp2)
     go_ret
     exact ⟨by first | rfl | (simp; done) | (simp [*]; done), by repeat (first | exact Drawn0.refl _ | apply Drawn0.step)⟩
 ·rw [if_neg c3] at H
  have c3b0 := beq_eq_false_iff_ne.mpr c3
  have c3b1 := bne_iff_ne.mpr c3
  have c3b2 : (l0.length == l1.length) = false := by first | simpa using c3 | (simp at c3 ⊢; omega)
  obtain rfl := Option.some.inj H
  go_enter Tryd.func57, Tryd.ntmps57
  go_wp2
  repeat (go_quiet (fail); try go_wp2)
  go_ret
  exact ⟨by first | rfl | (simp; done) | (simp [*]; done), by repeat (first | exact Drawn0.refl _ | apply Drawn0.step)⟩
end
section
def L_rate.step (k : Nat) (ls lv : List Int) (thr : Int) (j : Nat) (s : Int × Int) : Option (Int × Int) :=
 (L_noisy.f k ls lv j).bind fun row => (Sp_int_106.f k row).bind fun m => some (if thr ≤ m then wrap64 (s.1 + 1) else s.1, wrap64 (s.2 + 1))
def L_rate.f (k : Nat) (l0 l1_0 : List Int) (a2 : Int) : Option (Int × Int) :=
 (L_cases.f k l1_0 l0.length).bind fun c => if 0 ≤ c.1 then if c.1 ≤ 1000000 then (iterN (L_rate.step k l0 l1_0 a2) c.1.toNat (0, 0)).bind fun s => L_fraction.f k s.1 s.2 else none else none
theorem L_rate.mono : ∀ a0 a1 a2 k, LeO (L_rate.f k a0 a1 a2) (L_rate.f (k + 1) a0 a1 a2) := by
 intro a0 a1 a2 k
 unfold L_rate.f
 refine LeO.bind (L_cases.mono _ _ _) (fun c => ?_)
 refine LeO.ite (LeO.ite (LeO.bind (iterN_mono (fun j s => ?_) _ _) (fun s => L_fraction.mono _ _ _)) (LeO.none _)) (LeO.none _)
 unfold L_rate.step
 exact LeO.bind (L_noisy.mono _ _ _ _) (fun row => LeO.bind (Sp_int_106.mono _ _) (fun m => LeO.refl _))
attribute [local go_sem] Oper.semAt_some
theorem L_rate.calls (k : Nat) (A0 : Option Addr) (c0 : Nat) (l0 : List Int) (A1_0 : Option Addr) (c1_0 : Nat) (l1_0 : List Int) (a2 : Int) (r1 r2 : Int) (w : World) (hr0 : Kd.C (Kd.int .i64) w A0 l0.length l0) (hc0 : l0.length ≤ c0) (hr1_0 : Kd.C (Kd.int .i64) w A1_0 l1_0.length l1_0) (hc1_0 : l1_0.length ≤ c1_0) (h : L_rate.f k l0 l1_0 a2 = some (r1, r2)) :
  Calls Tryd.prog 101 #[.slice A0 l0.length c0, .agg #[.slice A1_0 l1_0.length c1_0], .int .i64 a2] w fun e w' => e = .returned (.agg #[.int .i64 r1, .int .i64 r2]) ∧ Below w.heap.size w w' := by
 unfold L_rate.f at h
 obtain ⟨⟨all, few⟩, hall, h⟩ := Option.bind_eq_some_iff.mp h
 by_cases h0 : 0 ≤ all
 case neg => rw [if_neg h0] at h; exact absurd h (by simp)
 rw [if_pos h0] at h
 by_cases hbig : all ≤ 1000000
 case neg => rw [if_neg hbig] at h; exact absurd h (by simp)
 rw [if_pos hbig] at h
 obtain ⟨⟨hits, cnt⟩, hit, hfr⟩ := Option.bind_eq_some_iff.mp h
 replace hit : iterN (L_rate.step k l0 l1_0 a2) all.toNat (0, 0) = some (hits, cnt) := hit
 replace hfr : L_fraction.f k hits cnt = some (r1, r2) := hfr
 clear h
 refine (callsIn_wide (n := 9)).1 ?_
 refine callsIn_of_wp_marks Tryd.func101 rfl trivial ?_ rfl
 simp only [Tryd.ntmps101, List.size_toArray, List.length_cons, List.length_nil, Nat.reduceAdd, Nat.reduceSub, Array.replicate_succ, Array.replicate_zero, List.push_toArray, List.append_toArray, List.nil_append, List.cons_append]
 gi_wp2_with (first | (refine ⟨trivial, ?_⟩; gi_at_call 94; refine (callsIn_wide.2 (L_each.calls_own _ _ _ _ _ _ _)).mono ?_; rintro e w' ⟨rfl, rfl⟩))
 obtain ⟨W0, hW0⟩ : ∃ W0, (((((((w.alloc (.cells #[.slice A1_0 l1_0.length c1_0] 24)).alloc (.cells #[.int .i64 a2] 3)).alloc (.cells #[.int .i64 0, .int .i64 0] 26)).alloc (.cells #[.int .i64 0] 3)).alloc (.cells #[.int .i64 0] 3)).alloc (.cells #[.slice A0 l0.length c0] 22)).alloc (.cells #[.slice A1_0 l1_0.length c1_0] 24)) = W0 := ⟨_, rfl⟩
 have hz : W0.heap.size = w.heap.size + 7 := by rw [← hW0]; simp
 have hb0 : Below w.heap.size w W0 := by rw [← hW0]; repeat (first | exact Below.refl _ _ | apply below_alloc)
 have k0 : W0.heap[w.heap.size]? = some (.cells #[.slice A1_0 l1_0.length c1_0] 24 (0, 0)) := by
  rw [← hW0]; iterate 6 apply blk_alloc
  have := blk_new w (.cells #[.slice A1_0 l1_0.length c1_0] 24 (0, 0)); simpa using this
 have k1 : W0.heap[w.heap.size + 1]? = some (.cells #[.int .i64 a2] 3 (0, 0)) := by
  rw [← hW0]; iterate 5 apply blk_alloc
  have := blk_new (w.alloc (.cells #[.slice A1_0 l1_0.length c1_0] 24)) (.cells #[.int .i64 a2] 3 (0, 0)); simpa using this
 have k2 : W0.heap[w.heap.size + 1 + 1]? = some (.cells #[.int .i64 0, .int .i64 0] 26 (0, 0)) := by
  rw [← hW0]; iterate 4 apply blk_alloc
  have := blk_new ((w.alloc (.cells #[.slice A1_0 l1_0.length c1_0] 24)).alloc (.cells #[.int .i64 a2] 3)) (.cells #[.int .i64 0, .int .i64 0] 26 (0, 0)); simpa using this
 have k3 : W0.heap[w.heap.size + 1 + 1 + 1]? = some (.cells #[.int .i64 0] 3 (0, 0)) := by
  rw [← hW0]; iterate 3 apply blk_alloc
  have := blk_new (((w.alloc (.cells #[.slice A1_0 l1_0.length c1_0] 24)).alloc (.cells #[.int .i64 a2] 3)).alloc (.cells #[.int .i64 0, .int .i64 0] 26)) (.cells #[.int .i64 0] 3 (0, 0)); simpa using this
 have k4 : W0.heap[w.heap.size + 1 + 1 + 1 + 1]? = some (.cells #[.int .i64 0] 3 (0, 0)) := by
  rw [← hW0]; iterate 2 apply blk_alloc
  have := blk_new ((((w.alloc (.cells #[.slice A1_0 l1_0.length c1_0] 24)).alloc (.cells #[.int .i64 a2] 3)).alloc (.cells #[.int .i64 0, .int .i64 0] 26)).alloc (.cells #[.int .i64 0] 3)) (.cells #[.int .i64 0] 3 (0, 0)); simpa using this
 have k5 : W0.heap[w.heap.size + 1 + 1 + 1 + 1 + 1]? = some (.cells #[.slice A0 l0.length c0] 22 (0, 0)) := by
  rw [← hW0]; iterate 1 apply blk_alloc
  have := blk_new (((((w.alloc (.cells #[.slice A1_0 l1_0.length c1_0] 24)).alloc (.cells #[.int .i64 a2] 3)).alloc (.cells #[.int .i64 0, .int .i64 0] 26)).alloc (.cells #[.int .i64 0] 3)).alloc (.cells #[.int .i64 0] 3)) (.cells #[.slice A0 l0.length c0] 22 (0, 0)); simpa using this
 have k6 : W0.heap[w.heap.size + 1 + 1 + 1 + 1 + 1 + 1]? = some (.cells #[.slice A1_0 l1_0.length c1_0] 24 (0, 0)) := by
  rw [← hW0]; iterate 0 apply blk_alloc
  have := blk_new ((((((w.alloc (.cells #[.slice A1_0 l1_0.length c1_0] 24)).alloc (.cells #[.int .i64 a2] 3)).alloc (.cells #[.int .i64 0, .int .i64 0] 26)).alloc (.cells #[.int .i64 0] 3)).alloc (.cells #[.int .i64 0] 3)).alloc (.cells #[.slice A0 l0.length c0] 22)) (.cells #[.slice A1_0 l1_0.length c1_0] 24 (0, 0)); simpa using this
 rw [hW0]
 clear hW0
 have hstep := fun (j : Nat) (hj : (j : Int) < all) => iterN_pre hit (show j ≤ all.toNat by omega)
 have hrow : ∀ j : Nat, (j : Int) < all → L_noisy.f k l0 l1_0 j = some ((L_noisy.f k l0 l1_0 j).getD []) := fun j hj => by
  obtain ⟨q, hq⟩ := hstep j hj
  obtain ⟨q', hq', _⟩ := iterN_at hit (show j < all.toNat by omega) hq
  obtain ⟨row, hr, _⟩ := Option.bind_eq_some_iff.mp hq'
  rw [hr]; rfl
 have hY := L_each.yields 8 k (by decide) A0 A1_0 c0 c1_0 l0 l1_0 all few (fun j => (L_noisy.f k l0 l1_0 j).getD []) w (w.heap.size + 1 + 1 + 1 + 1 + 1 + 1) (w.heap.size + 1 + 1 + 1 + 1 + 1) W0 hb0 ((blk_cell k6 0).trans rfl) ((blk_cell k5 0).trans rfl) hr0 hc0 hr1_0 hc1_0 hall h0 hbig hrow
 have HIT := m0 hit
 have HFR := m0 hfr
 have HY := m0 hY
 clear hit hfr hstep hrow hY
 refine wpIn_rangeN rfl (by decide) (gf := 131) (lb := #[.pointer (some ⟨w.heap.size + 1 + 1 + 1 + 1 + 1 + 1, 0, none⟩), .pointer (some ⟨w.heap.size + 1 + 1 + 1 + 1 + 1, 0, none⟩)]) rfl trivial (enters_of Tryd.func131 (by kernel_rfl) rfl) HY.out
  (L_each.Rd_putObj) (fun h k => h.trans k) (fun W l o o' hl h hc hw => L_each.Kp_putObj (w := W0) (v1 := undef) (v2 := undef) (by omega) W l o o' hl h hc hw (by omega) (by omega)) (Below.refl _ _) (fun _ _ => rfl)
  (fun j W => (∃ s : Int × Int, iterN (L_rate.step k l0 l1_0 a2) j (0, 0) = some s ∧ W.heap[w.heap.size + 1 + 1 + 1]? = some (.cells #[.int .i64 s.1] 3 (0, 0)) ∧ W.heap[w.heap.size + 1 + 1 + 1 + 1]? = some (.cells #[.int .i64 s.2] 3 (0, 0)) ∧ W.heap[w.heap.size + 1]? = some (.cells #[.int .i64 a2] 3 (0, 0)) ∧ W.heap[w.heap.size + 1 + 1]? = some (.cells #[.int .i64 0, .int .i64 0] 26 (0, 0)) ∧ W0.heap.size ≤ W.heap.size) ∧ Below w.heap.size w W)
  (fun _ _ _ => False)
  (OwnFrom.and (fun j A B row hs hg hr => by
   obtain ⟨s, h1, h2, h3, h4, h5, h6⟩ := hs
   exact ⟨s, h1, blk_own h2 hg hr, blk_own h3 hg hr, blk_own h4 hg hr, blk_own h5 hg hr, Nat.le_trans h6 hg.size⟩) (ownFrom_below (Nat.le_refl _) (by omega)))
  (fun _ _ _ _ _ hs _ _ => hs)
  ⟨⟨(0, 0), rfl, k3, k4, k1, k2, Nat.le_refl _⟩, hb0⟩
  (fun j x => { tmps := #[.slice A0 l0.length c0, .agg #[.slice A1_0 l1_0.length c1_0], .int .i64 a2, undef, .pointer (some ⟨w.heap.size, 0, none⟩), .pointer (some ⟨w.heap.size + 1, 0, none⟩), .pointer (some ⟨w.heap.size + 1 + 1, 0, none⟩), .pointer (some ⟨w.heap.size + 1 + 1 + 1, 0, none⟩), .pointer (some ⟨w.heap.size + 1 + 1 + 1 + 1, 0, none⟩), undef, x, .slice A0 l0.length c0, .agg #[.slice A1_0 l1_0.length c1_0], .func (.func 131) #[] #[.pointer (some ⟨w.heap.size + 1 + 1 + 1 + 1 + 1 + 1, 0, none⟩), .pointer (some ⟨w.heap.size + 1 + 1 + 1 + 1 + 1, 0, none⟩)], .int .i64 (j : Int), x, undef, undef, undef, undef, undef, undef, undef, undef, undef, undef, undef], defers := [] }) ?assign ?body ?done ?stop
 case assign =>
  intro l j x W K hK
  gi_wp2
  exact hK
 case stop =>
  rintro D c j W _ _ h _
  exact h.elim
 case body =>
  rintro l j x W ⟨⟨⟨s1, s2⟩, hs, h3, h4, h1, h2, h6⟩, hB⟩ ⟨A, c, hx, hc, hC, hm⟩ hj
  obtain ⟨q', hq', hq1⟩ := iterN_at HIT.out hj hs
  obtain ⟨row, hr, hq'⟩ := Option.bind_eq_some_iff.mp hq'
  obtain ⟨m, hmx, hq'⟩ := Option.bind_eq_some_iff.mp hq'
  have er : (L_noisy.f k l0 l1_0 (j : Int)).getD [] = row := by rw [hr]; rfl
  simp only [er] at hx hc hC
  subst hx
  obtain rfl := Option.some.inj hq'
  have H3 := m0 h3
  have H4 := m0 h4
  have H1 := m0 h1
  have H2 := m0 h2
  have HBB := m0 hB
  have H6 := m0 h6
  have HC := m0 hC
  have HCC := m0 hc
  have HM := m0 hm
  have HMX := m0 hmx
  have HQ1 := m0 hq1
  have HZ := m0 hz
  have c4 : W.cell? ⟨w.heap.size + 1 + 1 + 1 + 1, 0, none⟩ = some (.int .i64 s2) := (blk_cell h4 0).trans rfl
  have f4 := blk_frozen h4 0
  clear h1 h2 h3 h4 hB h6 hC hc hm hmx hq1 hq' hs hr er hz k0 k1 k2 k3 k4 k5 k6 hb0 hall HIT HFR HY hr0 hr1_0 hc0 hc1_0 hj
  have hmo : Tryd.prog.follows .mixedOrders = true := by kernel_rfl
  have c1_ : W.cell? ⟨w.heap.size + 1, 0, none⟩ = some (.int .i64 a2) := (blk_cell H1.out 0).trans rfl
  have hcall : ∀ W5 : World, W5.heap = (W.setCell ⟨w.heap.size + 1 + 1 + 1 + 1, 0, none⟩ (.int .i64 (wrap64 (s2 + 1)))).heap → W5.os = W.os → W5.tape = W.tape → W5.output = W.output → Calls Tryd.prog 106 #[.slice A row.length c] W5 fun e w5 => e = .returned (.int .i64 m) ∧ w5.cell? ⟨w.heap.size + 1, 0, none⟩ = some (.int .i64 a2) ∧ w5.cell? ⟨w.heap.size + 1 + 1 + 1, 0, none⟩ = some (.int .i64 s1) ∧ w5.frozen? ⟨w.heap.size + 1 + 1 + 1, 0, none⟩ = false ∧ Aside0 (w5.heap[w.heap.size + 1 + 1 + 1]? = some (.cells #[.int .i64 s1] 3 (0, 0)) ∧ w5.heap[w.heap.size + 1 + 1 + 1 + 1]? = some (.cells #[.int .i64 (wrap64 (s2 + 1))] 3 (0, 0)) ∧ w5.heap[w.heap.size + 1]? = some (.cells #[.int .i64 a2] 3 (0, 0)) ∧ w5.heap[w.heap.size + 1 + 1]? = some (.cells #[.int .i64 0, .int .i64 0] 26 (0, 0)) ∧ Below w.heap.size w w5 ∧ KeepsOthers W w5 ∧ L_each.Kp w.heap.size (w.heap.size + 1 + 1 + 1 + 1 + 1 + 1) (w.heap.size + 1 + 1 + 1 + 1 + 1) W w5 ∧ W0.heap.size ≤ w5.heap.size) := fun W5 hh ho ht hp => by
   have ha := HZ.out
   have hb6 := H6.out
   have keep : ∀ g : Nat, g ≠ w.heap.size + 1 + 1 + 1 + 1 → W5.heap[g]? = W.heap[g]? := fun g hg => by rw [hh]; exact heap_setCell_ne hg
   refine (Sp_int_106.calls k A c row m W5 (C_blocks HC.out (fun ad e => keep _ (by have := HM.out ad e; omega))) HCC.out HMX.out).mono ?_
   rintro e w5 ⟨rfl, hb⟩
   have g3 := blk_below ((keep _ (by omega)).trans H3.out) hb
   have g1 := blk_below ((keep _ (by omega)).trans H1.out) hb
   have g2 := blk_below ((keep _ (by omega)).trans H2.out) hb
   have g4 := blk_below (w := W5) (g := w.heap.size + 1 + 1 + 1 + 1) (by rw [hh]; exact blk_put H4.out 0 _ rfl) hb
   have hsz : W5.heap.size = W.heap.size := by rw [hh]; simp [World.setCell]
   have hbb : Below w.heap.size W W5 := ⟨ho, ht, hp, by omega, fun g hg => keep g (by omega)⟩
   have hko : KeepsOthers W W5 := ⟨by omega, fun g o hg hcell => by
    by_cases e : g = w.heap.size + 1 + 1 + 1 + 1
    ·rw [e, H4.out] at hg; cases hg; cases hcell
    ·exact (keep g e).trans hg⟩
   have hkp : L_each.Kp w.heap.size (w.heap.size + 1 + 1 + 1 + 1 + 1 + 1) (w.heap.size + 1 + 1 + 1 + 1 + 1) W W5 := ⟨hbb, World.cell?_of_block (keep (w.heap.size + 1 + 1 + 1 + 1 + 1 + 1) (by omega)), World.cell?_of_block (keep (w.heap.size + 1 + 1 + 1 + 1 + 1) (by omega))⟩
   exact ⟨rfl, (blk_cell g1 0).trans rfl, (blk_cell g3 0).trans rfl, blk_frozen g3 0, ⟨g3, g4, g1, g2, (HBB.out.trans hbb).trans (hb.mono (by omega)), hko.trans (others_below hb), hkp.below (by omega) (by omega) (by omega) hb, by have := hb.size; omega⟩⟩
  have HCALL := m0 hcall
  generalize hLEFT : leftN _ _ _ _ _ = LEFT
  have hyes : ∀ (w5 : World) (a : Act), a2 ≤ m → Aside0 (w5.heap[w.heap.size + 1 + 1 + 1]? = some (.cells #[.int .i64 s1] 3 (0, 0)) ∧ w5.heap[w.heap.size + 1 + 1 + 1 + 1]? = some (.cells #[.int .i64 (wrap64 (s2 + 1))] 3 (0, 0)) ∧ w5.heap[w.heap.size + 1]? = some (.cells #[.int .i64 a2] 3 (0, 0)) ∧ w5.heap[w.heap.size + 1 + 1]? = some (.cells #[.int .i64 0, .int .i64 0] 26 (0, 0)) ∧ Below w.heap.size w w5 ∧ KeepsOthers W w5 ∧ L_each.Kp w.heap.size (w.heap.size + 1 + 1 + 1 + 1 + 1 + 1) (w.heap.size + 1 + 1 + 1 + 1 + 1) W w5 ∧ W0.heap.size ≤ w5.heap.size) → LEFT Exit.normal a (w5.setCell ⟨w.heap.size + 1 + 1 + 1, 0, none⟩ (.int .i64 (wrap64 (s1 + 1)))) := by
   rintro w5 a ht ⟨p3, p4, p1, p2, pB, pK, pKp, pz⟩
   rw [← hLEFT]
   refine ⟨pK.trans (KeepsOthers.setCell _ _ _), pKp.setCell (by omega) (by omega) (by omega), ⟨_, HQ1.out, ?_, blk_ne_set p4 (by omega), blk_ne_set p1 (by omega), blk_ne_set p2 (by omega), ?_⟩, pB.setCell (p := ⟨w.heap.size + 1 + 1 + 1, 0, none⟩) (by show w.heap.size ≤ w.heap.size + 1 + 1 + 1; omega) _⟩
   ·rw [if_pos ht]; exact blk_put p3 0 _ rfl
   ·simpa [World.setCell] using pz
  have hno : ∀ (w5 : World) (a : Act), ¬ a2 ≤ m → Aside0 (w5.heap[w.heap.size + 1 + 1 + 1]? = some (.cells #[.int .i64 s1] 3 (0, 0)) ∧ w5.heap[w.heap.size + 1 + 1 + 1 + 1]? = some (.cells #[.int .i64 (wrap64 (s2 + 1))] 3 (0, 0)) ∧ w5.heap[w.heap.size + 1]? = some (.cells #[.int .i64 a2] 3 (0, 0)) ∧ w5.heap[w.heap.size + 1 + 1]? = some (.cells #[.int .i64 0, .int .i64 0] 26 (0, 0)) ∧ Below w.heap.size w w5 ∧ KeepsOthers W w5 ∧ L_each.Kp w.heap.size (w.heap.size + 1 + 1 + 1 + 1 + 1 + 1) (w.heap.size + 1 + 1 + 1 + 1 + 1) W w5 ∧ W0.heap.size ≤ w5.heap.size) → LEFT Exit.normal a w5 := by
   rintro w5 a ht ⟨p3, p4, p1, p2, pB, pK, pKp, pz⟩
   rw [← hLEFT]
   refine ⟨pK, pKp, ⟨_, HQ1.out, ?_, p4, p1, p2, pz⟩, pB⟩
   rw [if_neg ht]; exact p3
  have HYES := m0 hyes
  have HNO := m0 hno
  clear hyes hno hcall hLEFT
  gi_wp2
  gi_region_with_o (refine ⟨trivial, ?_⟩; gi_at_call 106; refine (CallsIn.inRound l (callsIn_wide.2 (HCALL.out _ (by rfl) (by rfl) (by rfl) (by rfl)))).mono ?_; rintro e w5 ⟨rfl, g1, g3, f3, HX⟩)
  all_goals gi_wp2
  all_goals (try go_bits)
  all_goals first | exact HYES.out _ _ (by assumption) HX | exact HNO.out _ _ (by first | assumption | (have : m < a2 := (by assumption); omega)) HX
 case done =>
  rintro D W hD ⟨⟨s, hs, h3, h4, h1, h2, h6⟩, hB⟩ hK
  rw [HIT.out] at hs
  cases hs
  have H2 := m0 h2
  have HBB := m0 hB
  have HZ := m0 hz
  have H6 := m0 h6
  have HK := m0 hK
  have HD := m0 hD
  have c3 : W.cell? ⟨w.heap.size + 1 + 1 + 1, 0, none⟩ = some (.int .i64 hits) := (blk_cell h3 0).trans rfl
  have c4 : W.cell? ⟨w.heap.size + 1 + 1 + 1 + 1, 0, none⟩ = some (.int .i64 cnt) := (blk_cell h4 0).trans rfl
  clear h1 h2 h3 h4 hB h6 hz k0 k1 k2 k3 k4 k5 k6 hb0 hall HIT HY hr0 hr1_0 hc0 hc1_0 hK hD
  gi_wp2_with (first | (refine ⟨trivial, ?_⟩; gi_at_call 96; refine (callsIn_wide.2 (L_fraction.calls k hits cnt r1 r2 W HFR.out)).mono ?_; rintro e w5 ⟨rfl, hb⟩; have g2 := blk_below H2.out hb; have z0 : w5.cell? ⟨w.heap.size + 1 + 1, 0, none⟩ = some (.int .i64 0) := (blk_cell g2 0).trans rfl; have z1 : w5.cell? ⟨w.heap.size + 1 + 1, 1, none⟩ = some (.int .i64 0) := (blk_cell g2 1).trans rfl; have f0 := blk_frozen g2 0; have f1 := blk_frozen g2 1; have HB5 := m0 hb; have G2 := m0 g2; clear hb g2))
  have hK5 : w5.heap[D]? = some (.deferred (some [])) := blk_below HK.out HB5.out
  have hZ := HZ.out
  have hD := HD.out
  have hK6 : ((w5.setCell ⟨w.heap.size + 1 + 1, 0, none⟩ (.int .i64 r1)).setCell ⟨w.heap.size + 1 + 1, 1, none⟩ (.int .i64 r2)).heap[D]? = some (.deferred (some [])) := blk_ne_set (blk_ne_set hK5 (by omega)) (by omega)
  refine ⟨by simp, .inl ⟨_, _, rfl, run_takeDeferred hK6, ?_⟩⟩
  have b1 : Below w.heap.size w ((w5.setCell ⟨w.heap.size + 1 + 1, 0, none⟩ (.int .i64 r1)).setCell ⟨w.heap.size + 1 + 1, 1, none⟩ (.int .i64 r2)) :=
   ((HBB.out.trans (HB5.out.mono HBB.out.size)).setCell (p := ⟨w.heap.size + 1 + 1, 0, none⟩) (by show w.heap.size ≤ w.heap.size + 1 + 1; omega) _).setCell (p := ⟨w.heap.size + 1 + 1, 1, none⟩) (by show w.heap.size ≤ w.heap.size + 1 + 1; omega) _
  exact ⟨.agg #[.int .i64 r1, .int .i64 r2], results_cell_row rfl _ _ (w.heap.size + 1 + 1) 26 #[.int .i64 r1, .int .i64 r2] (0, 0) _ rfl ((World.putObj_heap_other (by omega)).trans (blk_put (cs := #[.int .i64 r1, .int .i64 0]) (blk_put (cs := #[.int .i64 0, .int .i64 0]) G2.out 0 _ rfl) 1 _ rfl)) Tryd.underlying26 rfl (by kernel_rfl), rfl, b1.trans (belowK_b (w := w) (Nat.le_refl _) _ D _ _ (by omega) hK6 rfl rfl)⟩
end
end Go.Proofs.YtjnkphmcndaijaaDoor.A
