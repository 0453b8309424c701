/- Walks of the program's functions (printed, made shorter), each with what it computes. -/
import Derived.Test.YtjnkphmcndaijaaDoorWit04
import Derived.Test.YtjnkphmcndaijaaDoorWit13
import Derived.Test.YtjnkphmcndaijaaDoorWit03
import Derived.Test.YtjnkphmcndaijaaDoorWit06
namespace Go.Proofs.YtjnkphmcndaijaaDoor.A
open Go.RowKit Go.Proofs.YtjnkphmcndaijaaDoorW.PrintWords Go.Proofs.YtjnkphmcndaijaaDoorW.PrintLast Go.Proofs.YtjnkphmcndaijaaDoorW.PrintMore
attribute [local go_sem] max2_int min2_int max_two min_two max_three min_three max_four min_four
set_option linter.unusedVariables false
set_option linter.unusedSimpArgs false
section
def glidepathbase_IsSmall.f (a0_0 : Int) (a0_1 : Int) : Option (Bool) := (glidepathbase_Within.f a0_0 (-1000000000) 1000000000).bind fun t421 => (if t421 = true then ((glidepathbase_Within.f a0_1 1 1000000000).bind fun t422 => (some t422)) else (some false))
set_option maxHeartbeats 8000000 in
set_option maxRecDepth 100000 in
theorem glidepathbase_IsSmall.calls (a0_0 : Int) (a0_1 : Int) (r : Bool) (w : World) (h : glidepathbase_IsSmall.f a0_0 a0_1 = some r) :
  Calls Tryd.prog 36 #[.agg #[.int .i64 a0_0, .int .i64 a0_1]] w fun e w' => e = .returned (.bool r) ∧ Below w.heap.size w w' := by
 have hu26 := Tryd.underlying26
 have HB := Aside0.mk (Below.refl w.heap.size w)
 have H : ((glidepathbase_Within.f a0_0 (-1000000000) 1000000000).bind fun t421 => (if t421 = true then ((glidepathbase_Within.f a0_1 1 1000000000).bind fun t422 => (some t422)) else (some false))) = some r := h
 clear h
 replace H := Option.bind_eq_some_iff.mp H
 obtain ⟨t421, A20, H⟩ := H
 (try dsimp only at H)
 have A2 := Aside0.mk A20
 clear A20
 by_cases c3 : t421 = true
 ·subst c3
  rw [if_pos rfl] at H
  replace H := Option.bind_eq_some_iff.mp H
  obtain ⟨t422, A40, H⟩ := H
  (try dsimp only at H)
  have A4 := Aside0.mk A40
  clear A40
  obtain rfl := Option.some.inj H
  go_enter Tryd.func36, Tryd.ntmps36
  go_wp2_with (first | ((with_reducible refine gate_dst (N := 1) rfl ?_); refine be 1 26 #[.int .i64 a0_0, .int .i64 a0_1] ?_; intro gb420 hg w5 hbox hb; have BK420 := Aside0.mk hbox; have GW420 := Aside0.mk (bg (n := w.heap.size) hg); have GE420 := Aside0.mk (bg (n := w.heap.size) hg); replace HB := sb HB hb; clear hb hbox hg; obtain ⟨_, _, _, _⟩ := b2 BK420) | ((with_reducible refine gate_callee (f := 31) rfl ?_); refine gl (some 5) Tryd.func31 #[.int .i64 a0_0, .int .i64 (-1000000000), .int .i64 1000000000] ?_; (with_reducible refine (glidepathbase_Within.calls a0_0 (-1000000000) 1000000000 true _ A2.out).mono ?_); rintro e w' ⟨rfl, ⟨nd, rfl⟩⟩; refine ⟨_, rfl, ?_⟩) | (go_at_call 31; (with_reducible refine (glidepathbase_Within.calls a0_1 1 1000000000 t422 _ A4.out).mono ?_); rintro e w' ⟨rfl, ⟨nd, rfl⟩⟩))
  go_ret
  exact ez
 ·replace c3 := Bool.eq_false_iff.mpr c3
  subst c3
  rw [if_neg (show ¬ (false = true) by decide)] at H
  obtain rfl := Option.some.inj H
  go_enter Tryd.func36, Tryd.ntmps36
  go_wp2_with (first | ((with_reducible refine gate_dst (N := 1) rfl ?_); refine be 1 26 #[.int .i64 a0_0, .int .i64 a0_1] ?_; intro gb420 hg w7 hbox hb; have BK420 := Aside0.mk hbox; have GW420 := Aside0.mk (bg (n := w.heap.size) hg); have GE420 := Aside0.mk (bg (n := w.heap.size) hg); replace HB := sb HB hb; clear hb hbox hg; obtain ⟨_, _, _, _⟩ := b2 BK420) | ((with_reducible refine gate_callee (f := 31) rfl ?_); refine gl (some 5) Tryd.func31 #[.int .i64 a0_0, .int .i64 (-1000000000), .int .i64 1000000000] ?_; (with_reducible refine (glidepathbase_Within.calls a0_0 (-1000000000) 1000000000 false _ A2.out).mono ?_); rintro e w' ⟨rfl, ⟨nd, rfl⟩⟩; refine ⟨_, rfl, ?_⟩))
  go_ret
  exact ez
end
section
def glidepathbase_CopyInts.f (l0 : List Int) : Option (List Int) := (some (([] : List Int) : List Int)).bind fun y440 => (if y440.length + l0.length < 17592186044416 then (some (y440 ++ l0)) else (none))
set_option maxHeartbeats 8000000 in
set_option maxRecDepth 100000 in
theorem glidepathbase_CopyInts.calls (A0 : Option Addr) (c0 : Nat) (l0 : List Int) (r : List Int) (w : World) (hr0 : Kd.C (Kd.int .i64) w A0 l0.length l0) (hc0 : l0.length ≤ c0) (h : glidepathbase_CopyInts.f l0 = some r) :
  Calls Tryd.prog 33 #[.slice A0 l0.length c0] w fun e w' => ∃ v0_ : Value, e = .returned (v0_) ∧ Kd.R (Kd.int .i64) 3 w' w.heap.size (fun _ => True) v0_ r ∧ Below w.heap.size w w' := by
 have HR0 := Aside0.mk hr0
 have HC0 := Aside0.mk hc0
 clear hr0 hc0
 have HB := Aside0.mk (Below.refl w.heap.size w)
 have H : ((some (([] : List Int) : List Int)).bind fun y440 => (if y440.length + l0.length < 17592186044416 then (some (y440 ++ l0)) else (none))) = some r := h
 clear h
 obtain ⟨y440, hy440⟩ : ∃ y_ : List Int, y_ = (([] : List Int)) := ⟨_, rfl⟩
 replace H : (if y440.length + l0.length < 17592186044416 then (some (y440 ++ l0)) else (none)) = some r := by first | (rw [hy440]; with_reducible exact H) | (have H2_ := (Option.bind_some _ _).symm.trans H; rw [hy440]; with_reducible exact H2_) | (have H2_ := (Option.bind_some _ _).symm.trans H; with_reducible exact H2_) | with_reducible exact H | (rw [hy440]; exact H) | exact H
 have Ny440 := Aside0.mk hy440
 clear hy440
 by_cases c2 : y440.length + l0.length < 17592186044416
 ·rw [if_pos c2] at H
  have LMc2 := Aside0.mk c2
  clear c2
  obtain ⟨y443, hy443⟩ : ∃ y_ : List Int, y_ = (y440 ++ l0) := ⟨_, rfl⟩
  replace H : (some y443) = some r := by first | (rw [hy443]; with_reducible exact H) | (have H2_ := (Option.bind_some _ _).symm.trans H; rw [hy443]; with_reducible exact H2_) | (have H2_ := (Option.bind_some _ _).symm.trans H; with_reducible exact H2_) | with_reducible exact H | (rw [hy443]; exact H) | exact H
  have Ny443 := Aside0.mk hy443
  clear hy443
  obtain rfl := Option.some.inj H
  go_enter Tryd.func33, Tryd.ntmps33
  go_wp2_with (first | ((with_reducible refine gate_dst (N := 3) rfl ?_); refine Kd.R_lit (Kd.int .i64) _ 3 ?hg (N := 3) ?hd (xs := ([] : List Int)) (inner := []) (ok := fun _ => True) (okp := fun _ => True) ?hr ?hp (fun _ hk => hk) trivial (Below.refl _ _) (Nat.le_refl _) (by simp) ?_; (case hd => rfl); (case hg => rfl); (case hr => first | (go_simp; done) | (go_simp; rfl)); (case hp => exact (Reps.none _ _)); intro v441 w3 ho4 hb hg_ hnew_; clear hg_ hnew_; (first | rw [← Ny440.out] at ho4 | (simp only [Int.reduceToNat] at ho4; rw [← Ny440.out] at ho4)); have HO442 := Aside0.mk (Kd.R_lower ho4 (below_size bz)); replace HB := sb HB hb; clear hb ho4) | ((with_reducible refine gate_builtin (b := .append) (xs := #[.tmp 3, .tmp 4]) rfl ?_); at_builtin; refine Kd.R_append_rows (Kd.int .i64) (w0 := w) w.heap.size rfl (.tmp 3) (.tmp 4) 22 3 (.int .i64 0) 8 rfl Tryd.underlying22 info3 rfl (by decide) (by omega) v441 y440 l0 _ _ _ (fun _ => True) (fun _ => False) rfl rfl ?aO ?aR (fun _ _ h => h) (fun _ h => h.elim) ?aF ?aB ?aS ?aL ?_; (case aR => exact bc (Kd.C_below HR0.out HB.out)); (case aB => exact bz); (case aF => exact (fun _ _ => trivial)); (case aO => exact (br HO442.out)); (case aS => exact (below_size bz)); (case aL => have := LMc2.out; omega); intro v444 w5 ho hb hg hat; rw [← Ny443.out] at ho; have n0_ := Aside0.mk (hb); have n1_ := Aside0.mk (ho); clear HB; clear HO442; have HB := n0_; have HO445 := n1_; clear n0_ n1_; clear ho hb hg hat))
  go_ret
  exact ⟨_, by first | rfl | (simp [errW_none, errW_some] <;> rfl) | (simp [*, errW_none, errW_some] <;> rfl), by (with_reducible repeat (first | apply Kd.R_alloc | apply Kd.R_drewN | apply Kd.R_drew)); exact HO445.out, by repeat (first | (with_reducible first | exact HB.out | apply below_alloc | apply pw_below_drewN | apply below_drew1) | exact HB.out)⟩
 ·rw [if_neg c2] at H
  exact absurd H (by simp)
end
section
def glidepathbase_Cmp.f (a0_0 : Int) (a0_1 : Int) (a1_0 : Int) (a1_1 : Int) : Option (Int) := if (wrap64 (a0_0 * a1_1)) < (wrap64 (a1_0 * a0_1)) then (some (-1)) else (if (wrap64 (a0_0 * a1_1)) > (wrap64 (a1_0 * a0_1)) then (some 1) else (some 0))
set_option maxHeartbeats 8000000 in
set_option maxRecDepth 100000 in
theorem glidepathbase_Cmp.calls (a0_0 : Int) (a0_1 : Int) (a1_0 : Int) (a1_1 : Int) (r : Int) (w : World) (h : glidepathbase_Cmp.f a0_0 a0_1 a1_0 a1_1 = some r) :
  Calls Tryd.prog 37 #[.agg #[.int .i64 a0_0, .int .i64 a0_1], .agg #[.int .i64 a1_0, .int .i64 a1_1]] w fun e w' => e = .returned (.int .i64 r) ∧ Below w.heap.size w w' := by
 have hu26 := Tryd.underlying26
 have HB := Aside0.mk (Below.refl w.heap.size w)
 have H : (if (wrap64 (a0_0 * a1_1)) < (wrap64 (a1_0 * a0_1)) then (some (-1)) else (if (wrap64 (a0_0 * a1_1)) > (wrap64 (a1_0 * a0_1)) then (some 1) else (some 0))) = some r := h
 clear h
 by_cases c3 : (wrap64 (a0_0 * a1_1)) < (wrap64 (a1_0 * a0_1))
 ·rw [if_pos c3] at H
  have c3b0 := decide_eq_true c3
  clear c3
  obtain rfl := Option.some.inj H
  go_enter Tryd.func37, Tryd.ntmps37
  go_wp2_with (first | ((with_reducible refine gate_dst (N := 2) rfl ?_); refine be 2 26 #[.int .i64 a0_0, .int .i64 a0_1] ?_; intro gb460 hg w4 hbox hb; have BK460 := Aside0.mk hbox; have GW460 := Aside0.mk (bg (n := w.heap.size) hg); have GE460 := Aside0.mk (bg (n := w.heap.size) hg); replace HB := sb HB hb; clear hb hbox hg) | ((with_reducible refine gate_dst (N := 3) rfl ?_); refine be 3 26 #[.int .i64 a1_0, .int .i64 a1_1] ?_; intro gb461 hg w5 hbox hb; have BK461 := Aside0.mk hbox; have GW461 := Aside0.mk (bg (n := w.heap.size) hg); have GE461 := Aside0.mk (bg (n := w.heap.size) hg); replace HB := sb HB hb; have NB460_461 := nl BK460 hg; have NB461_460 := ng (nl BK460 hg); replace BK460 := bb BK460 hb; clear hb hbox hg; have hnb6 := NB460_461.out; have hnc6 := NB461_460.out; obtain ⟨hcz7_0, hcz7_1, hfz7_0, hfz7_1⟩ := b2 BK460; obtain ⟨hcz8_0, hcz8_1, hfz8_0, hfz8_1⟩ := b2 BK461))
  repeat (go_quiet (first | ((with_reducible refine gate_dst (N := 2) rfl ?_); refine be 2 26 #[.int .i64 a0_0, .int .i64 a0_1] ?_; intro gb460 hg w4 hbox hb; have BK460 := Aside0.mk hbox; have GW460 := Aside0.mk (bg (n := w.heap.size) hg); have GE460 := Aside0.mk (bg (n := w.heap.size) hg); replace HB := sb HB hb; clear hb hbox hg) | ((with_reducible refine gate_dst (N := 3) rfl ?_); refine be 3 26 #[.int .i64 a1_0, .int .i64 a1_1] ?_; intro gb461 hg w5 hbox hb; have BK461 := Aside0.mk hbox; have GW461 := Aside0.mk (bg (n := w.heap.size) hg); have GE461 := Aside0.mk (bg (n := w.heap.size) hg); replace HB := sb HB hb; have NB460_461 := nl BK460 hg; have NB461_460 := ng (nl BK460 hg); replace BK460 := bb BK460 hb; clear hb hbox hg; have hnb6 := NB460_461.out; have hnc6 := NB461_460.out; obtain ⟨hcz7_0, hcz7_1, hfz7_0, hfz7_1⟩ := b2 BK460; obtain ⟨hcz8_0, hcz8_1, hfz8_0, hfz8_1⟩ := b2 BK461)); try go_wp2_with (first | ((with_reducible refine gate_dst (N := 2) rfl ?_); refine be 2 26 #[.int .i64 a0_0, .int .i64 a0_1] ?_; intro gb460 hg w4 hbox hb; have BK460 := Aside0.mk hbox; have GW460 := Aside0.mk (bg (n := w.heap.size) hg); have GE460 := Aside0.mk (bg (n := w.heap.size) hg); replace HB := sb HB hb; clear hb hbox hg) | ((with_reducible refine gate_dst (N := 3) rfl ?_); refine be 3 26 #[.int .i64 a1_0, .int .i64 a1_1] ?_; intro gb461 hg w5 hbox hb; have BK461 := Aside0.mk hbox; have GW461 := Aside0.mk (bg (n := w.heap.size) hg); have GE461 := Aside0.mk (bg (n := w.heap.size) hg); replace HB := sb HB hb; have NB460_461 := nl BK460 hg; have NB461_460 := ng (nl BK460 hg); replace BK460 := bb BK460 hb; clear hb hbox hg; have hnb6 := NB460_461.out; have hnc6 := NB461_460.out; obtain ⟨hcz7_0, hcz7_1, hfz7_0, hfz7_1⟩ := b2 BK460; obtain ⟨hcz8_0, hcz8_1, hfz8_0, hfz8_1⟩ := b2 BK461)))
  go_ret
  exact ez
 ·rw [if_neg c3] at H
  have c3b0 := decide_eq_false c3
  clear c3
  by_cases c9 : (wrap64 (a0_0 * a1_1)) > (wrap64 (a1_0 * a0_1))
  ·rw [if_pos c9] at H
   have c9b0 := decide_eq_true c9
   clear c9
   obtain rfl := Option.some.inj H
   go_enter Tryd.func37, Tryd.ntmps37
   go_wp2_with (first | ((with_reducible refine gate_dst (N := 2) rfl ?_); refine be 2 26 #[.int .i64 a0_0, .int .i64 a0_1] ?_; intro gb460 hg w10 hbox hb; have BK460 := Aside0.mk hbox; have GW460 := Aside0.mk (bg (n := w.heap.size) hg); have GE460 := Aside0.mk (bg (n := w.heap.size) hg); replace HB := sb HB hb; clear hb hbox hg) | ((with_reducible refine gate_dst (N := 3) rfl ?_); refine be 3 26 #[.int .i64 a1_0, .int .i64 a1_1] ?_; intro gb461 hg w11 hbox hb; have BK461 := Aside0.mk hbox; have GW461 := Aside0.mk (bg (n := w.heap.size) hg); have GE461 := Aside0.mk (bg (n := w.heap.size) hg); replace HB := sb HB hb; have NB460_461 := nl BK460 hg; have NB461_460 := ng (nl BK460 hg); replace BK460 := bb BK460 hb; clear hb hbox hg; have hnb12 := NB460_461.out; have hnc12 := NB461_460.out; obtain ⟨hcz13_0, hcz13_1, hfz13_0, hfz13_1⟩ := b2 BK460; obtain ⟨hcz14_0, hcz14_1, hfz14_0, hfz14_1⟩ := b2 BK461))
   repeat (go_quiet (first | ((with_reducible refine gate_dst (N := 2) rfl ?_); refine be 2 26 #[.int .i64 a0_0, .int .i64 a0_1] ?_; intro gb460 hg w10 hbox hb; have BK460 := Aside0.mk hbox; have GW460 := Aside0.mk (bg (n := w.heap.size) hg); have GE460 := Aside0.mk (bg (n := w.heap.size) hg); replace HB := sb HB hb; clear hb hbox hg) | ((with_reducible refine gate_dst (N := 3) rfl ?_); refine be 3 26 #[.int .i64 a1_0, .int .i64 a1_1] ?_; intro gb461 hg w11 hbox hb; have BK461 := Aside0.mk hbox; have GW461 := Aside0.mk (bg (n := w.heap.size) hg); have GE461 := Aside0.mk (bg (n := w.heap.size) hg); replace HB := sb HB hb; have NB460_461 := nl BK460 hg; have NB461_460 := ng (nl BK460 hg); replace BK460 := bb BK460 hb; clear hb hbox hg; have hnb12 := NB460_461.out; have hnc12 := NB461_460.out; obtain ⟨hcz13_0, hcz13_1, hfz13_0, hfz13_1⟩ := b2 BK460; obtain ⟨hcz14_0, hcz14_1, hfz14_0, hfz14_1⟩ := b2 BK461)); try go_wp2_with (first | ((with_reducible refine gate_dst (N := 2) rfl ?_); refine be 2 26 #[.int .i64 a0_0, .int .i64 a0_1] ?_; intro gb460 hg w10 hbox hb; have BK460 := Aside0.mk hbox; have GW460 := Aside0.mk (bg (n := w.heap.size) hg); have GE460 := Aside0.mk (bg (n := w.heap.size) hg); replace HB := sb HB hb; clear hb hbox hg) | ((with_reducible refine gate_dst (N := 3) rfl ?_); refine be 3 26 #[.int .i64 a1_0, .int .i64 a1_1] ?_; intro gb461 hg w11 hbox hb; have BK461 := Aside0.mk hbox; have GW461 := Aside0.mk (bg (n := w.heap.size) hg); have GE461 := Aside0.mk (bg (n := w.heap.size) hg); replace HB := sb HB hb; have NB460_461 := nl BK460 hg; have NB461_460 := ng (nl BK460 hg); replace BK460 := bb BK460 hb; clear hb hbox hg; have hnb12 := NB460_461.out; have hnc12 := NB461_460.out; obtain ⟨hcz13_0, hcz13_1, hfz13_0, hfz13_1⟩ := b2 BK460; obtain ⟨hcz14_0, hcz14_1, hfz14_0, hfz14_1⟩ := b2 BK461)))
   go_ret
   exact ez
  ·rw [if_neg c9] at H
   have c9b0 := decide_eq_false c9
   clear c9
   obtain rfl := Option.some.inj H
   go_enter Tryd.func37, Tryd.ntmps37
   go_wp2_with (first | ((with_reducible refine gate_dst (N := 2) rfl ?_); refine be 2 26 #[.int .i64 a0_0, .int .i64 a0_1] ?_; intro gb460 hg w15 hbox hb; have BK460 := Aside0.mk hbox; have GW460 := Aside0.mk (bg (n := w.heap.size) hg); have GE460 := Aside0.mk (bg (n := w.heap.size) hg); replace HB := sb HB hb; clear hb hbox hg) | ((with_reducible refine gate_dst (N := 3) rfl ?_); refine be 3 26 #[.int .i64 a1_0, .int .i64 a1_1] ?_; intro gb461 hg w16 hbox hb; have BK461 := Aside0.mk hbox; have GW461 := Aside0.mk (bg (n := w.heap.size) hg); have GE461 := Aside0.mk (bg (n := w.heap.size) hg); replace HB := sb HB hb; have NB460_461 := nl BK460 hg; have NB461_460 := ng (nl BK460 hg); replace BK460 := bb BK460 hb; clear hb hbox hg; have hnb17 := NB460_461.out; have hnc17 := NB461_460.out; obtain ⟨hcz18_0, hcz18_1, hfz18_0, hfz18_1⟩ := b2 BK460; obtain ⟨hcz19_0, hcz19_1, hfz19_0, hfz19_1⟩ := b2 BK461))
   repeat (go_quiet (first | ((with_reducible refine gate_dst (N := 2) rfl ?_); refine be 2 26 #[.int .i64 a0_0, .int .i64 a0_1] ?_; intro gb460 hg w15 hbox hb; have BK460 := Aside0.mk hbox; have GW460 := Aside0.mk (bg (n := w.heap.size) hg); have GE460 := Aside0.mk (bg (n := w.heap.size) hg); replace HB := sb HB hb; clear hb hbox hg) | ((with_reducible refine gate_dst (N := 3) rfl ?_); refine be 3 26 #[.int .i64 a1_0, .int .i64 a1_1] ?_; intro gb461 hg w16 hbox hb; have BK461 := Aside0.mk hbox; have GW461 := Aside0.mk (bg (n := w.heap.size) hg); have GE461 := Aside0.mk (bg (n := w.heap.size) hg); replace HB := sb HB hb; have NB460_461 := nl BK460 hg; have NB461_460 := ng (nl BK460 hg); replace BK460 := bb BK460 hb; clear hb hbox hg; have hnb17 := NB460_461.out; have hnc17 := NB461_460.out; obtain ⟨hcz18_0, hcz18_1, hfz18_0, hfz18_1⟩ := b2 BK460; obtain ⟨hcz19_0, hcz19_1, hfz19_0, hfz19_1⟩ := b2 BK461)); try go_wp2_with (first | ((with_reducible refine gate_dst (N := 2) rfl ?_); refine be 2 26 #[.int .i64 a0_0, .int .i64 a0_1] ?_; intro gb460 hg w15 hbox hb; have BK460 := Aside0.mk hbox; have GW460 := Aside0.mk (bg (n := w.heap.size) hg); have GE460 := Aside0.mk (bg (n := w.heap.size) hg); replace HB := sb HB hb; clear hb hbox hg) | ((with_reducible refine gate_dst (N := 3) rfl ?_); refine be 3 26 #[.int .i64 a1_0, .int .i64 a1_1] ?_; intro gb461 hg w16 hbox hb; have BK461 := Aside0.mk hbox; have GW461 := Aside0.mk (bg (n := w.heap.size) hg); have GE461 := Aside0.mk (bg (n := w.heap.size) hg); replace HB := sb HB hb; have NB460_461 := nl BK460 hg; have NB461_460 := ng (nl BK460 hg); replace BK460 := bb BK460 hb; clear hb hbox hg; have hnb17 := NB460_461.out; have hnc17 := NB461_460.out; obtain ⟨hcz18_0, hcz18_1, hfz18_0, hfz18_1⟩ := b2 BK460; obtain ⟨hcz19_0, hcz19_1, hfz19_0, hfz19_1⟩ := b2 BK461)))
   go_ret
   exact ez
end
section
def glidepathref02_Sum.l0 : Nat → List Int → Int → Int → Option (Int)
 | 0, _, _, _ => none
 | k + 1, x0, x3, x4 => if x4 < (x0.length : Int) then (if 0 ≤ x4 then (glidepathref02_Sum.l0 k x0 (wrap64 (x3 + (rd x0 x4))) (wrap64 (x4 + 1))) else (none)) else (some x3)
def glidepathref02_Sum.f (k : Nat) (l0 : List Int) : Option (Int) := glidepathref02_Sum.l0 k l0 0 0
theorem glidepathref02_Sum.mono_l : ∀ k, (∀ y0 y1 y2, LeO (glidepathref02_Sum.l0 k y0 y1 y2) (glidepathref02_Sum.l0 (k + 1) y0 y1 y2))
 | 0 => fun _ _ _ r h => by simp [glidepathref02_Sum.l0] at h
 | k + 1 => by
  have ih0 := glidepathref02_Sum.mono_l k
  ·intro y0 y1 y2
   unfold glidepathref02_Sum.l0
   repeat' first
   | (with_reducible exact ih0 _ _ _)
   | (with_reducible exact LeO.refl _)
   | (with_reducible exact LeO.none _)
   | (with_reducible refine LeO.ite ?_ ?_)
   | (with_reducible refine LeO.bind ?_ (fun _ => ?_))
   | exact ih0 _ _ _
   | exact LeO.none _
   | refine LeO.ite ?_ ?_
   | refine LeO.bind ?_ (fun _ => ?_)
theorem glidepathref02_Sum.mono : ∀ a0 k, LeO (glidepathref02_Sum.f k a0) (glidepathref02_Sum.f (k + 1) a0) := by
 intro a0 k
 have ih0 := glidepathref02_Sum.mono_l k
 unfold glidepathref02_Sum.f
 repeat' first
   | (with_reducible exact ih0 _ _ _)
   | (with_reducible exact LeO.refl _)
   | (with_reducible exact LeO.none _)
   | (with_reducible refine LeO.ite ?_ ?_)
   | (with_reducible refine LeO.bind ?_ (fun _ => ?_))
   | exact ih0 _ _ _
   | exact LeO.none _
   | refine LeO.ite ?_ ?_
   | refine LeO.bind ?_ (fun _ => ?_)
set_option maxHeartbeats 8000000 in
set_option maxRecDepth 100000 in
theorem glidepathref02_Sum.calls (k : Nat) (A0 : Option Addr) (c0 : Nat) (l0 : List Int) (r : Int) (w : World) (hr0 : Kd.C (Kd.int .i64) w A0 l0.length l0) (hc0 : l0.length ≤ c0) (h : glidepathref02_Sum.f k l0 = some r) :
  Calls Tryd.prog 39 #[.slice A0 l0.length c0] w fun e w' => e = .returned (.int .i64 r) ∧ Drawn0 w w' := by
 have HR0 := Aside0.mk hr0
 have HC0 := Aside0.mk hc0
 clear hr0 hc0
 have H : (glidepathref02_Sum.l0 k l0 0 0) = some r := h
 clear h
 have H' := Aside0.mk H
 clear H
 go_enter Tryd.func39, Tryd.ntmps39
 go_wp2
 go_loopg [3, 4] k (fun kq v3 v4 w' => ∃ (x3_1 : Int) (x4_1 : Int), v3 = .int .i64 x3_1 ∧ v4 = .int .i64 x4_1 ∧ Aside0 (glidepathref02_Sum.l0 kq l0 x3_1 x4_1 = some r) ∧ Aside0 (kq ≤ k) ∧ Drawn0 w w')
 case atStart => exact ⟨(0), (0), (by first | rfl | (simp; done) | (simp [*]; done)), (by first | rfl | (simp; done) | (simp [*]; done)), H', ⟨Nat.le_refl _⟩, by repeat (first | exact Drawn0.refl _ | apply Drawn0.step)⟩
 case round =>
  clear H'
  obtain ⟨x3_1, x4_1, rfl, rfl, HA, HK1, ⟨m1, rfl⟩⟩ := hrel
  cases gk with
  | zero => exact absurd HA.out (by simp [glidepathref02_Sum.l0])
  | succ k1 =>
   have H := HA.out
   clear HA
   simp only [glidepathref02_Sum.l0] at H
   by_cases c2 : x4_1 < (l0.length : Int)
   ·rw [if_pos c2] at H
    have c2b0 := decide_eq_true c2
    clear c2
    by_cases c3 : 0 ≤ x4_1
    ·rw [if_pos c3] at H
     have c3b0 := decide_eq_true c3
     clear c3
     have H' := Aside0.mk H
     clear H
     have p468 : 0 ≤ (x4_1 : Int) := of_decide_eq_true (by first | (with_reducible assumption) | assumption)
     have q468 : x4_1 < (l0.length : Int) := of_decide_eq_true (by first | (with_reducible assumption) | assumption)
     obtain ⟨ad468, e468, hx468_0⟩ := Kd.at_int HR0.out x4_1 p468 q468
     cases e468
     replace p468 := eq_true p468
     replace q468 := eq_true q468
     go_wp2
     go_roundg k1
     case measure => have := HK1.out; omega
     case rel => exact ⟨(wrap64 (x3_1 + (rd l0 x4_1))), (wrap64 (x4_1 + 1)), (by first | rfl | (simp; done) | (simp [*]; done)), (by first | rfl | (simp; done) | (simp [*]; done)), H', ⟨by have := HK1.out; omega⟩, by repeat (first | exact Drawn0.refl _ | apply Drawn0.step)⟩
    ·rw [if_neg c3] at H
     exact absurd H (by simp)
   ·rw [if_neg c2] at H
    have c2b0 := decide_eq_false c2
    clear c2
    obtain rfl := Option.some.inj H
    go_wp2
    go_ret
    exact ⟨by first | rfl | (simp; done) | (simp [*]; done), by repeat (first | exact Drawn0.refl _ | apply Drawn0.step)⟩
end
section
def line_PeakOf.f (k : Nat) (l0 : List Int) : Option (Int × Int) := (line_open.f l0).bind fun bt622 => (if bt622.2 = 0 then ((line_spectrum_peak.f k bt622.1).bind fun t626 => (some (t626, 0))) else (some (0, bt622.2)))
theorem line_PeakOf.mono : ∀ a0 k, LeO (line_PeakOf.f k a0) (line_PeakOf.f (k + 1) a0) := by
 intro a0 k
 unfold line_PeakOf.f
 repeat' first
   | (with_reducible exact line_spectrum_peak.mono _ _)
   | (with_reducible exact LeO.refl _)
   | (with_reducible exact LeO.none _)
   | (with_reducible refine LeO.ite ?_ ?_)
   | (with_reducible refine LeO.bind ?_ (fun _ => ?_))
   | exact line_spectrum_peak.mono _ _
   | exact LeO.none _
   | refine LeO.ite ?_ ?_
   | refine LeO.bind ?_ (fun _ => ?_)
set_option maxHeartbeats 8000000 in
set_option maxRecDepth 100000 in
theorem line_PeakOf.calls (k : Nat) (A0 : Option Addr) (c0 : Nat) (l0 : List Int) (r1 : Int) (r2 : Int) (w : World) (hr0 : Kd.C (Kd.int .i64) w A0 l0.length l0) (hc0 : l0.length ≤ c0) (h : line_PeakOf.f k l0 = some (r1, r2)) :
  Calls Tryd.prog 32 #[.slice A0 l0.length c0] w fun e w' => e = .returned (.tuple #[.int .i64 r1, .int .i64 r2]) ∧ Below w.heap.size w w' := by
 have HR0 := Aside0.mk hr0
 have HC0 := Aside0.mk hc0
 clear hr0 hc0
 have HB := Aside0.mk (Below.refl w.heap.size w)
 have H : ((line_open.f l0).bind fun bt622 => (if bt622.2 = 0 then ((line_spectrum_peak.f k bt622.1).bind fun t626 => (some (t626, 0))) else (some (0, bt622.2)))) = some (r1, r2) := h
 clear h
 replace H := Option.bind_eq_some_iff.mp H
 obtain ⟨⟨t622, t625⟩, A20, H⟩ := H
 (try dsimp only at H)
 have A2 := Aside0.mk A20
 clear A20
 by_cases c3 : t625 = 0
 ·rw [if_pos c3] at H
  have c3b0 := beq_iff_eq.mpr c3
  have c3b1 := bne_eq_false_iff_eq.mpr c3
  clear c3
  replace H := Option.bind_eq_some_iff.mp H
  obtain ⟨t626, A40, H⟩ := H
  (try dsimp only at H)
  have A4 := Aside0.mk A40
  clear A40
  simp only [Option.some.injEq, Prod.mk.injEq] at H
  obtain ⟨rfl, rfl⟩ := H
  go_enter Tryd.func32, Tryd.ntmps32
  go_wp2_with (first | ((with_reducible refine gate_callee (f := 102) rfl ?_); refine gl (some 8) Tryd.func102 #[.slice A0 l0.length c0] ?_; (with_reducible refine (line_open.calls (fun k_ => k_ < w.heap.size) _ _ l0 t622 t625 _ ?side1 A2.out).mono ?_); (case side1 => exact Kd.V_mk HC0.out (Kd.F_below (Kd.C_F (Kd.heap_int .i64) HR0.out) bz)); rintro e w5 ⟨v623, rfl, ho0, hb⟩; refine ⟨_, rfl, ?_⟩; have HO624 := Aside0.mk (Kd.V_lower (Kd.V_mono (ok' := fun k_ => True) ho0 (fun k_ hk_ => trivial)) (below_size bz)); replace HB := sb HB hb; (try clear hb); (try clear ho0); obtain ⟨Ao6, co6, eo6⟩ := Kd.V_slice HO624.out; subst eo6) | ((with_reducible refine gate_callee (f := 103) rfl ?_); refine gl (some 15) Tryd.func103 #[.slice Ao6 t622.length co6] ?_; (with_reducible refine (line_spectrum_peak.calls k _ _ t622 t626 _ ?side1 ?side2 A4.out).mono ?_); (case side1 => repeat (first | exact (Kd.V_reads' HO624.out).2.2 | (with_reducible refine Kd.C_alloc ?_ _) | (with_reducible refine Kd.C_drewN ?_ _) | (with_reducible refine Kd.C_drew ?_))); (case side2 => exact (Kd.V_reads' HO624.out).2.1); rintro e w7 ⟨rfl, hb⟩; refine ⟨_, rfl, ?_⟩; replace HO624 := Aside0.mk (Kd.V_below (by (with_reducible repeat (first | apply Kd.V_alloc | apply Kd.V_drewN | apply Kd.V_drew)); exact HO624.out) hb); replace HB := sb HB hb; (try clear hb)))
  go_ret2
  exact ez
 ·rw [if_neg c3] at H
  have c3b0 := beq_eq_false_iff_ne.mpr c3
  have c3b1 := bne_iff_ne.mpr c3
  simp only [Option.some.injEq, Prod.mk.injEq] at H
  obtain ⟨rfl, rfl⟩ := H
  go_enter Tryd.func32, Tryd.ntmps32
  go_wp2_with (first | ((with_reducible refine gate_callee (f := 102) rfl ?_); refine gl (some 8) Tryd.func102 #[.slice A0 l0.length c0] ?_; (with_reducible refine (line_open.calls (fun k_ => k_ < w.heap.size) _ _ l0 t622 t625 _ ?side1 A2.out).mono ?_); (case side1 => exact Kd.V_mk HC0.out (Kd.F_below (Kd.C_F (Kd.heap_int .i64) HR0.out) bz)); rintro e w8 ⟨v623, rfl, ho0, hb⟩; refine ⟨_, rfl, ?_⟩; have HO624 := Aside0.mk (Kd.V_lower (Kd.V_mono (ok' := fun k_ => True) ho0 (fun k_ hk_ => trivial)) (below_size bz)); replace HB := sb HB hb; (try clear hb); (try clear ho0)))
  go_ret2
  exact ez
end
end Go.Proofs.YtjnkphmcndaijaaDoor.A
