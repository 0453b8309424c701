/- Walks of the program's functions (printed, made shorter), each with what it computes. -/
import Derived.Test.YteiafijbgjgiaaaGreatA01
namespace Go.Proofs.YteiafijbgjgiaaaGreat.A
set_option maxHeartbeats 8000000
set_option maxRecDepth 100000
open Go.RowKit Go.Proofs.YteiafijbgjgiaaaGreatW.PrintWords Go.Proofs.YteiafijbgjgiaaaGreatW.PrintLast Go.Proofs.YteiafijbgjgiaaaGreatW.PrintMore
attribute [local go_sem] max2_int min2_int max_two min_two max_three min_three max_four min_four
set_option linter.unusedVariables false
set_option linter.unusedSimpArgs false
section
def Bs_CopyInts.f (l0:List Int):Option (List Int):=(some (([]:List Int):List Int)).bind fun y430=>(if y430.length+l0.length<17592186044416 then(some (y430++l0))else(none))
theorem Bs_CopyInts.calls (A0:Option Addr) (c0:Nat) (l0:List Int) (r:List Int) (w:World) (hr0:Kd.C (Kd.int .i64) w A0 l0.length l0) (hc0:l0.length≤c0) (H:Bs_CopyInts.f l0=some r):
  Calls Tryz.prog 13 #[.slice A0 l0.length c0] w fun e w'=>∃ v0_:Value,e= .returned (v0_)∧Kd.R (Kd.int .i64) 3 w' w.heap.size (fun _=>True) v0_ r∧Below w.heap.size w w':=by
 have HR0:=m0 hr0;have HC0:=m0 hc0;clear hr0 hc0;have HB:=m0 (Below.refl w.heap.size w);unfold Bs_CopyInts.f at H;obtain⟨y430,hy430⟩:∃ y_:List Int,y_=(([]:List Int)):=⟨_,rfl⟩;replace H:(if y430.length+l0.length<17592186044416 then(some (y430++l0))else(none))=some r:=by first|(rw[hy430];with_reducible exact H)|(have H2_:=(Option.bind_some _ _).symm.trans H;rw[hy430];with_reducible exact H2_)|(have H2_:=(Option.bind_some _ _).symm.trans H;with_reducible exact H2_)|with_reducible exact H|(rw[hy430];exact H)|exact H
 have Ny430:=m0 hy430;clear hy430
 by_cases c2:y430.length+l0.length<17592186044416
 ·rw [if_pos c2]at H;have LMc2:=m0 c2;clear c2;obtain⟨y433,hy433⟩:∃ y_:List Int,y_=(y430++l0):=⟨_,rfl⟩;replace H:(some y433)=some r:=by first|(rw[hy433];with_reducible exact H)|(have H2_:=(Option.bind_some _ _).symm.trans H;rw[hy433];with_reducible exact H2_)|(have H2_:=(Option.bind_some _ _).symm.trans H;with_reducible exact H2_)|with_reducible exact H|(rw[hy433];exact H)|exact H
  have Ny433:=m0 hy433;clear hy433;obtain rfl:=Option.some.inj H;go_enter Tryz.func13,Tryz.ntmps13
  go_wp2_with (first|((with_reducible refine ga 3 rfl ?_);refine Kd.R_lit (Kd.int .i64) _ 3 ?hg (N:=3) ?hd (xs:=([]:List Int)) (inner:=[]) (ok:=fun _=>True) (okp:=fun _=>True) ?hr ?hp (fun _ hk=>hk) trivial (Below.refl _ _) (Nat.le_refl _) (by simp) ?_;(case hd=>rfl);(case hg=>rfl);(case hr=>first|(go_simp;done)|(go_simp;rfl));(case hp=>exact(Reps.none _ _));intro v431 w3 ho4 hb hg_ hnew_;clear hg_ hnew_;(first|rw[← Ny430.out]at ho4|(simp only[Int.reduceToNat]at ho4;rw[← Ny430.out]at ho4));have HO432:=m0 (Kd.R_lower ho4 (below_size bz));replace HB:=sb HB hb;clear hb ho4)|((with_reducible refine gate_builtin (b:= .append) (xs:= #[.tmp 3,.tmp 4]) rfl ?_);at_builtin;refine Kd.R_append_rows (Kd.int .i64) (w0:=w) w.heap.size rfl (.tmp 3) (.tmp 4) 22 3 (.int .i64 0) 8 rfl Tryz.underlying22 info3 rfl (by decide) (by omega) v431 y430 l0 _ _ _ (fun _=>True) (fun _=>False) rfl rfl ?aO ?aR (fun _ _ h=>h) (fun _ h=>h.elim) ?aF ?aB ?aS ?aL ?_;(case aR=>exact cb HR0 HB);(case aB=>exact bz);(case aF=>exact(fun _ _=>trivial));(case aO=>exact(br HO432.out));(case aS=>exact(below_size bz));(case aL=>have:=LMc2.out;omega);intro v434 w5 ho hb hg hat;rw[← Ny433.out]at ho;have n0_:=m0 (hb);have n1_:=m0 (ho);clear HB;clear HO432;have HB:=n0_;have HO435:=n1_;clear n0_ n1_;clear ho hb hg hat))
  go_ret
  exact⟨_,by first|rfl|(simp[errW_none,errW_some]<;>rfl)|(simp[*,errW_none,errW_some]<;>rfl),by(with_reducible repeat(first|apply Kd.R_alloc|apply Kd.R_drewN|apply Kd.R_drew));exact HO435.out,by repeat(first|(with_reducible first|exact HB.out|apply below_alloc|apply pw_below_drewN|apply below_drew1)|exact HB.out)⟩
 ·rw [if_neg c2]at H;exact absurd H (by simp)
end
section
def Rf_ConstantErr.f (a0:Int):Option (Int):=(Bs_Within.f a0 1 1000000).bind fun t436=>(if t436=true then(some 0)else(some 2))
theorem Rf_ConstantErr.calls (a0:Int) (r:Int) (w:World) (H:Rf_ConstantErr.f a0=some r):
  Calls Tryz.prog 14 #[.int .i64 a0] w fun e w'=>e= .returned (.int .i64 r)∧Drawn0 w w':=by
 unfold Rf_ConstantErr.f at H;replace H:=oa H;obtain⟨t436,A2,H⟩:=H;(try dsimp only at H)
 by_cases c3:t436=true
 ·subst c3;rw[if_pos rfl]at H;obtain rfl:=Option.some.inj H;go_enter Tryz.func14,Tryz.ntmps14
  go_wp2_with (first|((with_reducible refine gc 11 rfl ?_);refine gl (some 4) Tryz.func11 #[.int .i64 a0,.int .i64 1,.int .i64 1000000] ?_;(with_reducible refine(Bs_Within.calls a0 1 1000000 true _ A2.out).mono ?_);rintro e w' ⟨rfl,⟨nd,rfl⟩⟩;refine⟨_,rfl,?_⟩))
  go_ret
  exact⟨rz,by repeat(first|exact Drawn0.refl _|apply Drawn0.step)⟩
 ·replace c3:=Bool.eq_false_iff.mpr c3;subst c3;rw[if_neg (show ¬ (false=true) by decide)]at H;obtain rfl:=Option.some.inj H;go_enter Tryz.func14,Tryz.ntmps14
  go_wp2_with (first|((with_reducible refine gc 11 rfl ?_);refine gl (some 4) Tryz.func11 #[.int .i64 a0,.int .i64 1,.int .i64 1000000] ?_;(with_reducible refine(Bs_Within.calls a0 1 1000000 false _ A2.out).mono ?_);rintro e w' ⟨rfl,⟨nd,rfl⟩⟩;refine⟨_,rfl,?_⟩))
  go_ret
  exact⟨rz,by repeat(first|exact Drawn0.refl _|apply Drawn0.step)⟩
end
section
def Bs_Size.f (a0:Int):Option (Int):=some (mx a0 (wrap64 (-a0)))
theorem Bs_Size.calls (a0:Int) (r:Int) (w:World) (H:Bs_Size.f a0=some r):
  Calls Tryz.prog 117 #[.int .i64 a0] w fun e w'=>e= .returned (.int .i64 r)∧Below w.heap.size w w':=by
 have HB:=m0 (Below.refl w.heap.size w);unfold Bs_Size.f at H;obtain⟨ji2,hji2⟩:∃ j_:Int,(mx a0 (wrap64 (-a0)))=j_:=⟨_,rfl⟩;replace H:(some ji2)=some r:=by first|(rw[hji2]at H;exact H)|(simp only[hji2]at H ⊢;exact H)
 have hji2_:(if a0<(wrap64 (-a0))then(wrap64 (-a0))else a0)=ji2:=hji2;obtain rfl:=Option.some.inj H;go_enter Tryz.func117,Tryz.ntmps117
 go_wp2
 go_ret
 exact⟨by first|rfl|(simp[errW_none,errW_some]<;>rfl)|(simp only[← hji2];first|rfl|(simp[errW_none,errW_some]<;>rfl))|(simp[*,errW_none,errW_some]<;>rfl),by repeat(first|(with_reducible first|exact HB.out|apply below_alloc|apply pw_below_drewN|apply below_drew1)|exact HB.out)⟩
end
section
def Bs_Gcd.l0:Nat→Int→Int→Option (Int)
 |0,_,_=>none
 |k+1,x0,x1=>if x1=0 then((Bs_Size.f x0).bind fun t437=>(some t437))else(Bs_Gcd.l0 k x1 (Int.tmod x0 x1))
def Bs_Gcd.f (k:Nat) (a0:Int) (a1:Int):Option (Int):=Bs_Gcd.l0 k a0 a1
theorem Bs_Gcd.mono_l:∀ k,(∀ y0 y1,LeO (Bs_Gcd.l0 k y0 y1) (Bs_Gcd.l0 (k+1) y0 y1))
 |0=>fun _ _ r h=>by simp[Bs_Gcd.l0]at h
 | k+1=>by
  have ih0:=Bs_Gcd.mono_l k
  ·intro y0 y1;unfold Bs_Gcd.l0
   repeat' with_reducible first
    |exact ih0 ..
    |exact LeO.refl ..
    |exact LeO.none ..
    |refine LeO.ite ?_ ?_
    |refine LeO.bind ?_ (fun _=>?_)
theorem Bs_Gcd.mono:∀ a0 a1 k,LeO (Bs_Gcd.f k a0 a1) (Bs_Gcd.f (k+1) a0 a1):=by
 intro a0 a1 k;have ih0:=Bs_Gcd.mono_l k;unfold Bs_Gcd.f
 repeat' with_reducible first
  |exact ih0 ..
  |exact LeO.refl ..
  |exact LeO.none ..
  |refine LeO.ite ?_ ?_
  |refine LeO.bind ?_ (fun _=>?_)
theorem Bs_Gcd.calls (k:Nat) (a0:Int) (a1:Int) (r:Int) (w:World) (H:Bs_Gcd.f k a0 a1=some r):
  Calls Tryz.prog 82 #[.int .i64 a0,.int .i64 a1] w fun e w'=>e= .returned (.int .i64 r)∧Below w.heap.size w w':=by
 have HB:=m0 (Below.refl w.heap.size w);unfold Bs_Gcd.f at H;have H':=m0 H;clear H;go_enter Tryz.func82,Tryz.ntmps82
 go_wp2
 repeat(go_quiet (fail);try go_wp2)
 go_loopg [0,1] k (fun kq v0 v1 w'=>∃ (x0_1:Int) (x1_1:Int),v0= .int .i64 x0_1∧v1= .int .i64 x1_1∧Aside0 (Bs_Gcd.l0 kq x0_1 x1_1=some r)∧Aside0 (kq≤k)∧Aside0 (Below w.heap.size w w'))
 case atStart=>exact⟨(a0),(a1),rz,rz,H',⟨Nat.le_refl _⟩,⟨bz⟩⟩
 case round=>
  clear H';obtain⟨x0_1,x1_1,rfl,rfl,HA,HK1,HB⟩:=hrel
  cases gk with
  |zero=>exact absurd HA.out (by simp[Bs_Gcd.l0])
  | succ k1=>
   have H:=HA.out;clear HA;simp only[Bs_Gcd.l0]at H
   by_cases c3:x1_1=0
   ·rw [if_pos c3]at H;have c3b0:=beq_iff_eq.mpr c3;have c3b1:=bne_eq_false_iff_eq.mpr c3;clear c3;replace H:=oa H;obtain⟨t437,A4,H⟩:=H;(try dsimp only at H);obtain rfl:=Option.some.inj H
    go_wp2_with (first|(go_at_call 117;(with_reducible refine(Bs_Size.calls x0_1 t437 _ A4.out).mono ?_);rintro e w5 ⟨rfl,hb⟩;replace HB:=sb HB hb;(try clear hb)))
    repeat(go_quiet (first|(go_at_call 117;(with_reducible refine(Bs_Size.calls x0_1 t437 _ A4.out).mono ?_);rintro e w5 ⟨rfl,hb⟩;replace HB:=sb HB hb;(try clear hb)));try go_wp2_with (first|(go_at_call 117;(with_reducible refine(Bs_Size.calls x0_1 t437 _ A4.out).mono ?_);rintro e w5 ⟨rfl,hb⟩;replace HB:=sb HB hb;(try clear hb))))
    go_ret
    exact ez
   ·rw [if_neg c3]at H;have c3b0:=beq_eq_false_iff_ne.mpr c3;have c3b1:=bne_iff_ne.mpr c3;have H':=m0 H;clear H
    go_wp2
    repeat(go_quiet (fail);try go_wp2)
    go_roundg k1
    case measure=>have:=HK1.out;omega
    case rel=>exact⟨(x1_1),(Int.tmod x0_1 x1_1),rz,rz,H',⟨by have:=HK1.out;omega⟩,⟨bz⟩⟩
end
section
def Bs_IsLowest.f (k:Nat) (a0_0:Int) (a0_1:Int):Option (Bool):=if a0_1>0 then((Bs_Gcd.f k a0_0 a0_1).bind fun t439=>(some (t439==1)))else(some false)
theorem Bs_IsLowest.mono:∀ a0 a1 k,LeO (Bs_IsLowest.f k a0 a1) (Bs_IsLowest.f (k+1) a0 a1):=by
 intro a0 a1 k;unfold Bs_IsLowest.f
 repeat' with_reducible first
  |exact Bs_Gcd.mono ..
  |exact LeO.refl ..
  |exact LeO.none ..
  |refine LeO.ite ?_ ?_
  |refine LeO.bind ?_ (fun _=>?_)
theorem Bs_IsLowest.calls (k:Nat) (a0_0:Int) (a0_1:Int) (r:Bool) (w:World) (H:Bs_IsLowest.f k a0_0 a0_1=some r):
  Calls Tryz.prog 54 #[.agg #[.int .i64 a0_0,.int .i64 a0_1]] w fun e w'=>e= .returned (.bool r)∧Below w.heap.size w w':=by
 have hu24:=Tryz.underlying24;have HB:=m0 (Below.refl w.heap.size w);unfold Bs_IsLowest.f at H
 by_cases c2:a0_1>0
 ·rw [if_pos c2]at H;have c2b0:=decide_eq_true c2;clear c2;replace H:=oa H;obtain⟨t439,A3,H⟩:=H;(try dsimp only at H);obtain rfl:=Option.some.inj H;go_enter Tryz.func54,Tryz.ntmps54
  go_wp2_with (first|((with_reducible refine ga 1 rfl ?_);refine be 1 24 #[.int .i64 a0_0,.int .i64 a0_1] ?_;intro gb438 hg w4 hbox hb;have BK438:=m0 hbox;have GE438:=gw w hg;replace HB:=sb HB hb;clear hb hbox hg;obtain⟨_,_,_,_⟩:=b2 BK438)|(go_at_call 82;(with_reducible refine(Bs_Gcd.calls k a0_0 a0_1 t439 _ A3.out).mono ?_);rintro e w6 ⟨rfl,hb⟩;replace BK438:=bb BK438 hb;replace HB:=sb HB hb;(try clear hb)))
  go_ret
  exact ez
 ·rw [if_neg c2]at H;have c2b0:=decide_eq_false c2;clear c2;obtain rfl:=Option.some.inj H;go_enter Tryz.func54,Tryz.ntmps54
  go_wp2_with (first|((with_reducible refine ga 1 rfl ?_);refine be 1 24 #[.int .i64 a0_0,.int .i64 a0_1] ?_;intro gb438 hg w7 hbox hb;have BK438:=m0 hbox;have GE438:=gw w hg;replace HB:=sb HB hb;clear hb hbox hg;obtain⟨_,_,_,_⟩:=b2 BK438))
  go_ret
  exact ez
end
section
def Rf_PartErr.f (k:Nat) (a0_0:Int) (a0_1:Int):Option (Int):=(Bs_IsLowest.f k a0_0 a0_1).bind fun t441=>(if t441=true then((Bs_Within.f a0_0 0 a0_1).bind fun t442=>(if t442=true then(if a0_1>1000000000 then(some 2)else(some 0))else(some 2)))else(some 3))
theorem Rf_PartErr.mono:∀ a0 a1 k,LeO (Rf_PartErr.f k a0 a1) (Rf_PartErr.f (k+1) a0 a1):=by
 intro a0 a1 k;unfold Rf_PartErr.f
 repeat' with_reducible first
  |exact Bs_IsLowest.mono ..
  |exact LeO.refl ..
  |exact LeO.none ..
  |refine LeO.ite ?_ ?_
  |refine LeO.bind ?_ (fun _=>?_)
theorem Rf_PartErr.calls (k:Nat) (a0_0:Int) (a0_1:Int) (r:Int) (w:World) (H:Rf_PartErr.f k a0_0 a0_1=some r):
  Calls Tryz.prog 15 #[.agg #[.int .i64 a0_0,.int .i64 a0_1]] w fun e w'=>e= .returned (.int .i64 r)∧Below w.heap.size w w':=by
 have hu24:=Tryz.underlying24;have HB:=m0 (Below.refl w.heap.size w);unfold Rf_PartErr.f at H;replace H:=oa H;obtain⟨t441,A2,H⟩:=H;(try dsimp only at H)
 by_cases c3:t441=true
 ·subst c3;rw[if_pos rfl]at H;replace H:=oa H;obtain⟨t442,A4,H⟩:=H;(try dsimp only at H)
  by_cases c5:t442=true
  ·subst c5;rw[if_pos rfl]at H
   by_cases c6:a0_1>1000000000
   ·rw [if_pos c6]at H;have c6b0:=decide_eq_true c6;clear c6;obtain rfl:=Option.some.inj H;go_enter Tryz.func15,Tryz.ntmps15
    go_wp2_with (first|((with_reducible refine ga 1 rfl ?_);refine be 1 24 #[.int .i64 a0_0,.int .i64 a0_1] ?_;intro gb440 hg w7 hbox hb;have BK440:=m0 hbox;have GE440:=gw w hg;replace HB:=sb HB hb;clear hb hbox hg;obtain⟨_,_,_,_⟩:=b2 BK440)|((with_reducible refine gc 54 rfl ?_);refine gl (some 4) Tryz.func54 #[.agg #[.int .i64 a0_0,.int .i64 a0_1]] ?_;(with_reducible refine(Bs_IsLowest.calls k a0_0 a0_1 true _ A2.out).mono ?_);rintro e w9 ⟨rfl,hb⟩;refine⟨_,rfl,?_⟩;replace BK440:=bb BK440 hb;replace HB:=sb HB hb;(try clear hb);obtain⟨_,_,_,_⟩:=b2 BK440)|((with_reducible refine gc 11 rfl ?_);refine gl (some 10) Tryz.func11 #[.int .i64 a0_0,.int .i64 0,.int .i64 a0_1] ?_;(with_reducible refine(Bs_Within.calls a0_0 0 a0_1 true _ A4.out).mono ?_);rintro e w' ⟨rfl,⟨nd,rfl⟩⟩;refine⟨_,rfl,?_⟩))
    go_ret
    exact ez
   ·rw [if_neg c6]at H;have c6b0:=decide_eq_false c6;clear c6;obtain rfl:=Option.some.inj H;go_enter Tryz.func15,Tryz.ntmps15
    go_wp2_with (first|((with_reducible refine ga 1 rfl ?_);refine be 1 24 #[.int .i64 a0_0,.int .i64 a0_1] ?_;intro gb440 hg w11 hbox hb;have BK440:=m0 hbox;have GE440:=gw w hg;replace HB:=sb HB hb;clear hb hbox hg;obtain⟨_,_,_,_⟩:=b2 BK440)|((with_reducible refine gc 54 rfl ?_);refine gl (some 4) Tryz.func54 #[.agg #[.int .i64 a0_0,.int .i64 a0_1]] ?_;(with_reducible refine(Bs_IsLowest.calls k a0_0 a0_1 true _ A2.out).mono ?_);rintro e w13 ⟨rfl,hb⟩;refine⟨_,rfl,?_⟩;replace BK440:=bb BK440 hb;replace HB:=sb HB hb;(try clear hb);obtain⟨_,_,_,_⟩:=b2 BK440)|((with_reducible refine gc 11 rfl ?_);refine gl (some 10) Tryz.func11 #[.int .i64 a0_0,.int .i64 0,.int .i64 a0_1] ?_;(with_reducible refine(Bs_Within.calls a0_0 0 a0_1 true _ A4.out).mono ?_);rintro e w' ⟨rfl,⟨nd,rfl⟩⟩;refine⟨_,rfl,?_⟩))
    go_ret
    exact ez
  ·replace c5:=Bool.eq_false_iff.mpr c5;subst c5;rw[if_neg (show ¬ (false=true) by decide)]at H;obtain rfl:=Option.some.inj H;go_enter Tryz.func15,Tryz.ntmps15
   go_wp2_with (first|((with_reducible refine ga 1 rfl ?_);refine be 1 24 #[.int .i64 a0_0,.int .i64 a0_1] ?_;intro gb440 hg w15 hbox hb;have BK440:=m0 hbox;have GE440:=gw w hg;replace HB:=sb HB hb;clear hb hbox hg;obtain⟨_,_,_,_⟩:=b2 BK440)|((with_reducible refine gc 54 rfl ?_);refine gl (some 4) Tryz.func54 #[.agg #[.int .i64 a0_0,.int .i64 a0_1]] ?_;(with_reducible refine(Bs_IsLowest.calls k a0_0 a0_1 true _ A2.out).mono ?_);rintro e w17 ⟨rfl,hb⟩;refine⟨_,rfl,?_⟩;replace BK440:=bb BK440 hb;replace HB:=sb HB hb;(try clear hb);obtain⟨_,_,_,_⟩:=b2 BK440)|((with_reducible refine gc 11 rfl ?_);refine gl (some 10) Tryz.func11 #[.int .i64 a0_0,.int .i64 0,.int .i64 a0_1] ?_;(with_reducible refine(Bs_Within.calls a0_0 0 a0_1 false _ A4.out).mono ?_);rintro e w' ⟨rfl,⟨nd,rfl⟩⟩;refine⟨_,rfl,?_⟩))
   go_ret
   exact ez
 ·replace c3:=Bool.eq_false_iff.mpr c3;subst c3;rw[if_neg (show ¬ (false=true) by decide)]at H;obtain rfl:=Option.some.inj H;go_enter Tryz.func15,Tryz.ntmps15
  go_wp2_with (first|((with_reducible refine ga 1 rfl ?_);refine be 1 24 #[.int .i64 a0_0,.int .i64 a0_1] ?_;intro gb440 hg w19 hbox hb;have BK440:=m0 hbox;have GE440:=gw w hg;replace HB:=sb HB hb;clear hb hbox hg;obtain⟨_,_,_,_⟩:=b2 BK440)|((with_reducible refine gc 54 rfl ?_);refine gl (some 4) Tryz.func54 #[.agg #[.int .i64 a0_0,.int .i64 a0_1]] ?_;(with_reducible refine(Bs_IsLowest.calls k a0_0 a0_1 false _ A2.out).mono ?_);rintro e w21 ⟨rfl,hb⟩;refine⟨_,rfl,?_⟩;replace BK440:=bb BK440 hb;replace HB:=sb HB hb;(try clear hb)))
  go_ret
  exact ez
end
section
def Rf_Rest.l0:Nat→List Int→Int→Int→Int→Option (Int)
 |0,_,_,_,_=>none
 |k+1,x0,x1,x2,x7=>if x7<x2 then(if 0≤x7 then(if x7<(x0.length:Int)then(Rf_Rest.l0 k x0 (wrap64 (x1-(rd x0 x7))) x2 (wrap64 (x7+1)))else(none))else(none))else(some x1)
def Rf_Rest.f (k:Nat) (l0:List Int) (a1:Int) (a2:Int):Option (Int):=Rf_Rest.l0 k l0 a1 a2 0
theorem Rf_Rest.mono_l:∀ k,(∀ y0 y1 y2 y3,LeO (Rf_Rest.l0 k y0 y1 y2 y3) (Rf_Rest.l0 (k+1) y0 y1 y2 y3))
 |0=>fun _ _ _ _ r h=>by simp[Rf_Rest.l0]at h
 | k+1=>by
  have ih0:=Rf_Rest.mono_l k
  ·intro y0 y1 y2 y3;unfold Rf_Rest.l0
   repeat' with_reducible first
    |exact ih0 ..
    |exact LeO.refl ..
    |exact LeO.none ..
    |refine LeO.ite ?_ ?_
    |refine LeO.bind ?_ (fun _=>?_)
theorem Rf_Rest.mono:∀ a0 a1 a2 k,LeO (Rf_Rest.f k a0 a1 a2) (Rf_Rest.f (k+1) a0 a1 a2):=by
 intro a0 a1 a2 k;have ih0:=Rf_Rest.mono_l k;unfold Rf_Rest.f
 repeat' with_reducible first
  |exact ih0 ..
  |exact LeO.refl ..
  |exact LeO.none ..
  |refine LeO.ite ?_ ?_
  |refine LeO.bind ?_ (fun _=>?_)
theorem Rf_Rest.calls (k:Nat) (A0:Option Addr) (c0:Nat) (l0:List Int) (a1:Int) (a2:Int) (r:Int) (w:World) (hr0:Kd.C (Kd.int .i64) w A0 l0.length l0) (hc0:l0.length≤c0) (H:Rf_Rest.f k l0 a1 a2=some r):
  Calls Tryz.prog 16 #[.slice A0 l0.length c0,.int .i64 a1,.int .i64 a2] w fun e w'=>e= .returned (.int .i64 r)∧Drawn0 w w':=by
 have HR0:=m0 hr0;have HC0:=m0 hc0;clear hr0 hc0;unfold Rf_Rest.f at H;have H':=m0 H;clear H;go_enter Tryz.func16,Tryz.ntmps16
 go_wp2
 go_loopg [1,7] k (fun kq v1 v7 w'=>∃ (x1_1:Int) (x7_1:Int),v1= .int .i64 x1_1∧v7= .int .i64 x7_1∧Aside0 (Rf_Rest.l0 kq l0 x1_1 a2 x7_1=some r)∧Aside0 (kq≤k)∧Drawn0 w w')
 case atStart=>exact⟨(a1),(0),rz,rz,H',⟨Nat.le_refl _⟩,by repeat(first|exact Drawn0.refl _|apply Drawn0.step)⟩
 case round=>
  clear H';obtain⟨x1_1,x7_1,rfl,rfl,HA,HK1,⟨m1,rfl⟩⟩:=hrel
  cases gk with
  |zero=>exact absurd HA.out (by simp[Rf_Rest.l0])
  | succ k1=>
   have H:=HA.out;clear HA;simp only[Rf_Rest.l0]at H
   by_cases c4:x7_1<a2
   ·rw [if_pos c4]at H;have c4b0:=decide_eq_true c4;clear c4
    by_cases c5:0≤x7_1
    ·rw [if_pos c5]at H;have c5b0:=decide_eq_true c5;clear c5
     by_cases c6:x7_1<(l0.length:Int)
     ·rw [if_pos c6]at H;have c6b0:=decide_eq_true c6;clear c6;have H':=m0 H;clear H;have p443:0≤(x7_1:Int):=od;have q443:x7_1<(l0.length:Int):=od;obtain⟨ad443,e443,hx443_0⟩:=Kd.at_int HR0.out x7_1 p443 q443
      cases e443
      replace p443:=eq_true p443;replace q443:=eq_true q443
      go_wp2
      go_roundg k1
      case measure=>have:=HK1.out;omega
      case rel=>exact⟨(wrap64 (x1_1-(rd l0 x7_1))),(wrap64 (x7_1+1)),rz,rz,H',⟨by have:=HK1.out;omega⟩,by repeat(first|exact Drawn0.refl _|apply Drawn0.step)⟩
     ·rw [if_neg c6]at H;exact absurd H (by simp)
    ·rw [if_neg c5]at H;exact absurd H (by simp)
   ·rw [if_neg c4]at H;have c4b0:=decide_eq_false c4;clear c4;obtain rfl:=Option.some.inj H
    go_wp2
    go_ret
    exact⟨rz,by repeat(first|exact Drawn0.refl _|apply Drawn0.step)⟩
end
section
def L_partErr.j0:Nat→Bool→Int→Int→Option (Int)
 |0,_,_,_=>none
 |k+1,x13,x445000,x445001=>if x13=true then(some 3)else((L_within.f x445000 0 x445001).bind fun t446=>(if t446=true then((L_unless.f (decide (x445001≤1000000000)) 2).bind fun t447=>(some t447))else((L_unless.f false 2).bind fun t448=>(some t448))))
def L_partErr.f (k:Nat) (a0_0:Int) (a0_1:Int):Option (Int):=if a0_1≤0 then(L_partErr.j0 k true a0_0 a0_1)else((L_divisor.f k a0_0 a0_1).bind fun t445=>(L_partErr.j0 k (t445 != 1) a0_0 a0_1))
theorem L_partErr.mono_l:∀ k,(∀ y0 y1 y2,LeO (L_partErr.j0 k y0 y1 y2) (L_partErr.j0 (k+1) y0 y1 y2))
 |0=>fun _ _ _ r h=>by simp[L_partErr.j0]at h
 | k+1=>by
  have ih0:=L_partErr.mono_l k
  ·intro y0 y1 y2;unfold L_partErr.j0
   repeat' with_reducible first
    |exact ih0 ..
    |exact L_divisor.mono ..
    |exact LeO.refl ..
    |exact LeO.none ..
    |refine LeO.ite ?_ ?_
    |refine LeO.bind ?_ (fun _=>?_)
theorem L_partErr.mono:∀ a0 a1 k,LeO (L_partErr.f k a0 a1) (L_partErr.f (k+1) a0 a1):=by
 intro a0 a1 k;have ih0:=L_partErr.mono_l k;unfold L_partErr.f
 repeat' with_reducible first
  |exact ih0 ..
  |exact L_divisor.mono ..
  |exact LeO.refl ..
  |exact LeO.none ..
  |refine LeO.ite ?_ ?_
  |refine LeO.bind ?_ (fun _=>?_)
theorem L_partErr.calls (k:Nat) (a0_0:Int) (a0_1:Int) (r:Int) (w:World) (H:L_partErr.f k a0_0 a0_1=some r):
  Calls Tryz.prog 56 #[.agg #[.int .i64 a0_0,.int .i64 a0_1]] w fun e w'=>e= .returned (.int .i64 r)∧Below w.heap.size w w':=by
 have hu24:=Tryz.underlying24;have HB:=m0 (Below.refl w.heap.size w);unfold L_partErr.f at H;have HC2:=m0 H;clear H;go_enter Tryz.func56,Tryz.ntmps56
 go_upto_region 1 with (first|((with_reducible refine ga 1 rfl ?_);refine be 1 24 #[.int .i64 a0_0,.int .i64 a0_1] ?_;intro gb444 hg w3 hbox hb;have BK444:=m0 hbox;have GE444:=gw w hg;replace HB:=sb HB hb;clear hb hbox hg))
 (try simp only[Act.put,List.setIfInBounds_toArray,List.set_cons_zero,List.set_cons_succ])
 go_cut [13] (fun v13 wc=>∃ (kq:Nat) (x13_1:Bool),v13= .bool x13_1∧Aside0 (L_partErr.j0 kq x13_1 a0_0 a0_1=some r)∧Aside0 (kq≤k)∧Aside0 (wc.heap[gb444]?=some (.cells #[.int .i64 a0_0,.int .i64 a0_1] 24 (0,0)))∧Aside0 (Below w.heap.size w wc))
 case first=>
  have H:=HC2.out;clear HC2
  by_cases c4:a0_1≤0
  ·rw [if_pos c4]at H;have c4b0:=decide_eq_true c4;clear c4
   (first|rw[c4b0]|(simp only[i64_w,i32_w];rw[c4b0])|skip)
   have H':=m0 H;clear H;obtain⟨hcz5_0,hcz5_1,hfz5_0,hfz5_1⟩:=b2 BK444
   go_wp2
   go_meet
   case rel=>exact⟨_,(true),rz,H',⟨by first|omega|exact Nat.le_refl _⟩,⟨bk BK444.out⟩,⟨bz⟩⟩
  ·rw [if_neg c4]at H;have c4b0:=decide_eq_false c4;clear c4
   (first|rw[c4b0]|(simp only[i64_w,i32_w];rw[c4b0])|skip)
   replace H:=oa H;obtain⟨t445,A6,H⟩:=H;(try dsimp only at H);have H':=m0 H;clear H;obtain⟨hcz7_0,hcz7_1,hfz7_0,hfz7_1⟩:=b2 BK444
   go_wp2_with (first|(go_at_call 84;(with_reducible refine(L_divisor.calls k a0_0 a0_1 t445 _ A6.out).mono ?_);rintro e w8 ⟨rfl,hb⟩;replace BK444:=bb BK444 hb;replace HB:=sb HB hb;(try clear hb)))
   go_meet
   case rel=>exact⟨_,((t445 != 1)),rz,H',⟨by first|omega|exact Nat.le_refl _⟩,⟨bk BK444.out⟩,⟨bz⟩⟩
 case rest=>
  clear HC2
  try clear hcz5_0
  try clear hcz5_1
  try clear hcz7_0
  try clear hcz7_1
  try clear hfz5_0
  try clear hfz5_1
  try clear hfz7_0
  try clear hfz7_1
  obtain⟨kq,x13_1,rfl,HA,HJ1,BK444,HB⟩:=hcut
  cases kq with
  |zero=>exact absurd HA.out (by simp[L_partErr.j0])
  | succ kj1=>
   have H:=HA.out;clear HA;simp only[L_partErr.j0]at H
   by_cases c9:x13_1=true
   ·subst c9;rw[if_pos rfl]at H;obtain rfl:=Option.some.inj H
    go_wp2
    go_ret
    exact ez
   ·replace c9:=Bool.eq_false_iff.mpr c9;subst c9;rw[if_neg (show ¬ (false=true) by decide)]at H;replace H:=oa H;obtain⟨t446,A10,H⟩:=H;(try dsimp only at H)
    by_cases c11:t446=true
    ·subst c11;rw[if_pos rfl]at H;replace H:=oa H;obtain⟨t447,A12,H⟩:=H;(try dsimp only at H);obtain rfl:=Option.some.inj H;obtain⟨_,_,_,_⟩:=b2 BK444
     go_wp2_with (first|((with_reducible refine gc 46 rfl ?_);refine gl (some 18) Tryz.func46 #[.int .i64 a0_0,.int .i64 0,.int .i64 a0_1] ?_;(with_reducible refine(L_within.calls a0_0 0 a0_1 true _ A10.out).mono ?_);rintro e w' ⟨rfl,⟨nd,rfl⟩⟩;refine⟨_,rfl,?_⟩)|((with_reducible refine gc 49 rfl ?_);refine gl (some 24) Tryz.func49 #[.bool (decide (a0_1≤1000000000)),.int .i64 2] ?_;(with_reducible refine(L_unless.calls (decide (a0_1≤1000000000)) 2 t447 _ A12.out).mono ?_);rintro e w' ⟨rfl,⟨nd,rfl⟩⟩;refine⟨_,rfl,?_⟩))
     go_ret
     exact ez
    ·replace c11:=Bool.eq_false_iff.mpr c11;subst c11;rw[if_neg (show ¬ (false=true) by decide)]at H;replace H:=oa H;obtain⟨t448,A14,H⟩:=H;(try dsimp only at H);obtain rfl:=Option.some.inj H;obtain⟨_,_,_,_⟩:=b2 BK444
     go_wp2_with (first|((with_reducible refine gc 46 rfl ?_);refine gl (some 18) Tryz.func46 #[.int .i64 a0_0,.int .i64 0,.int .i64 a0_1] ?_;(with_reducible refine(L_within.calls a0_0 0 a0_1 false _ A10.out).mono ?_);rintro e w' ⟨rfl,⟨nd,rfl⟩⟩;refine⟨_,rfl,?_⟩)|((with_reducible refine gc 49 rfl ?_);refine gl (some 24) Tryz.func49 #[.bool false,.int .i64 2] ?_;(with_reducible refine(L_unless.calls false 2 t448 _ A14.out).mono ?_);rintro e w' ⟨rfl,⟨nd,rfl⟩⟩;refine⟨_,rfl,?_⟩))
     go_ret
     exact ez
end
section
def L_VisibilityOf.l0:Nat→Int→List Int→Int→List Int→Int→Int→Int→Int→Option (Int×Int)
 |0,_,_,_,_,_,_,_,_=>none
 |k+1,x1,x8,x10,x34,x35,x36,x450000,x450001=>if x36<x35 then(if 0≤x36 then(if x36<(x34.length:Int)then(if(wrap64 ((wrap64 (x10-(rd x34 x36)))*x450001))≤(wrap64 (x450000*x1))then(some (x36,0))else(L_VisibilityOf.l0 k x1 x8 (wrap64 (x10-(rd x34 x36))) x34 x35 (wrap64 (x36+1)) x450000 x450001))else(none))else(none))else(some ((x8.length:Int),0))
def L_VisibilityOf.f (k:Nat) (l0:List Int) (a1:Int) (a2_0:Int) (a2_1:Int):Option (Int×Int):=(L_open.f k l0).bind fun bt450=>((L_constantErr.f a1).bind fun t454=>((L_partErr.f k a2_0 a2_1).bind fun t455=>((L_profile_sum.f k bt450.1).bind fun t456=>((L_unless.f (decide (t456≤a1)) 20).bind fun t457=>((L_first.f k (([bt450.2,t454,t455,t457]:List Int))).bind fun t461=>(if t461=0 then(L_VisibilityOf.l0 k a1 bt450.1 a1 bt450.1 (bt450.1.length:Int) 0 a2_0 a2_1)else(some (0,t461))))))))
theorem L_VisibilityOf.mono_l:∀ k,(∀ y0 y1 y2 y3 y4 y5 y6 y7,LeO (L_VisibilityOf.l0 k y0 y1 y2 y3 y4 y5 y6 y7) (L_VisibilityOf.l0 (k+1) y0 y1 y2 y3 y4 y5 y6 y7))
 |0=>fun _ _ _ _ _ _ _ _ r h=>by simp[L_VisibilityOf.l0]at h
 | k+1=>by
  have ih0:=L_VisibilityOf.mono_l k
  ·intro y0 y1 y2 y3 y4 y5 y6 y7;unfold L_VisibilityOf.l0
   repeat' with_reducible first
    |exact ih0 ..
    |exact L_first.mono ..
    |exact L_open.mono ..
    |exact L_partErr.mono ..
    |exact L_profile_sum.mono ..
    |exact LeO.refl ..
    |exact LeO.none ..
    |refine LeO.ite ?_ ?_
    |refine LeO.bind ?_ (fun _=>?_)
theorem L_VisibilityOf.mono:∀ a0 a1 a2 a3 k,LeO (L_VisibilityOf.f k a0 a1 a2 a3) (L_VisibilityOf.f (k+1) a0 a1 a2 a3):=by
 intro a0 a1 a2 a3 k;have ih0:=L_VisibilityOf.mono_l k;unfold L_VisibilityOf.f
 repeat' with_reducible first
  |exact ih0 ..
  |exact L_first.mono ..
  |exact L_open.mono ..
  |exact L_partErr.mono ..
  |exact L_profile_sum.mono ..
  |exact LeO.refl ..
  |exact LeO.none ..
  |refine LeO.ite ?_ ?_
  |refine LeO.bind ?_ (fun _=>?_)
def L_VisibilityOf.T2:Bool×List (List Nat×List Nat):=(true,[([],[]),([],[]),([1],[1]),([],[]),([3,2],[3]),([],[]),([5,4],[5]),([],[]),([6,7],[6,7]),([8,6],[8]),([0,2,4,9],[0,2,4,9]),([10,9],[10]),([11,11,0,1,2,3,4,5,6,7,8,9,10,11],[0,11])])
def L_VisibilityOf.B2:List Nat:=[0,0,2,0,14,0,62,0,254,510,1023,2047,4095]
theorem L_VisibilityOf.tab2:rtab .any (opsOf Tryz.f17 2)=L_VisibilityOf.T2:=by kernel_rfl
theorem L_VisibilityOf.bits2:waitsOk L_VisibilityOf.T2.2 L_VisibilityOf.B2=true:=by kernel_rfl
theorem L_VisibilityOf.calls (k:Nat) (A0:Option Addr) (c0:Nat) (l0:List Int) (a1:Int) (a2_0:Int) (a2_1:Int) (r1:Int) (r2:Int) (w:World) (hr0:Kd.C (Kd.int .i64) w A0 l0.length l0) (hc0:l0.length≤c0) (H:L_VisibilityOf.f k l0 a1 a2_0 a2_1=some (r1,r2)):
  Calls Tryz.prog 17 #[.slice A0 l0.length c0,.int .i64 a1,.agg #[.int .i64 a2_0,.int .i64 a2_1]] w fun e w'=>e= .returned (.tuple #[.int .i64 r1,.int .i64 r2])∧Below w.heap.size w w':=by
 have hu24:=Tryz.underlying24;have HR0:=m0 hr0;have HC0:=m0 hc0;clear hr0 hc0;have HB:=m0 (Below.refl w.heap.size w);unfold L_VisibilityOf.f at H;replace H:=oa H;obtain⟨⟨t450,t453⟩,A4,H⟩:=H;(try dsimp only at H);replace H:=oa H;obtain⟨t454,A5,H⟩:=H;(try dsimp only at H);replace H:=oa H;obtain⟨t455,A6,H⟩:=H;(try dsimp only at H);replace H:=oa H;obtain⟨t456,A7,H⟩:=H;(try dsimp only at H);replace H:=oa H;obtain⟨t457,A8,H⟩:=H;(try dsimp only at H);obtain⟨y458,hy458⟩:∃ y_:List Int,y_=(([t453,t454,t455,t457]:List Int)):=⟨_,rfl⟩;replace H:((L_first.f k y458).bind fun t461=>(if t461=0 then(L_VisibilityOf.l0 k a1 t450 a1 t450 (t450.length:Int) 0 a2_0 a2_1)else(some (0,t461))))=some (r1,r2):=by first|(rw[hy458];with_reducible exact H)|(have H2_:=(Option.bind_some _ _).symm.trans H;rw[hy458];with_reducible exact H2_)|(have H2_:=(Option.bind_some _ _).symm.trans H;with_reducible exact H2_)|with_reducible exact H|(rw[hy458];exact H)|exact H
 have Ny458:=m0 hy458;clear hy458;replace H:=oa H;obtain⟨t461,A9,H⟩:=H;(try dsimp only at H)
 by_cases c10:t461=0
 ·rw [if_pos c10]at H;have c10b0:=beq_iff_eq.mpr c10;have c10b1:=bne_eq_false_iff_eq.mpr c10;clear c10;have H':=m0 H;clear H;go_enter Tryz.func17,Tryz.ntmps17
  try go_wp2_with (first|((with_reducible refine ga 5 rfl ?_);refine be 5 24 #[.int .i64 a2_0,.int .i64 a2_1] ?_;intro gb449 hg w11 hbox hb;have BK449:=m0 hbox;have GW449:=gw w hg;have GE449:=gw w hg;replace HB:=sb HB hb;clear hb hbox hg)|((with_reducible refine gc 45 rfl ?_);refine gl (some 15) Tryz.func45 #[.slice A0 l0.length c0] ?_;(with_reducible refine(L_open.calls k (fun k_=>k_<w.heap.size) _ _ l0 t450 t453 _ ?side1 A4.out).mono ?_);(case side1=>exact Kd.V_mk HC0.out (Kd.F_below (Kd.C_F (Kd.heap_int .i64) HR0.out) bz));rintro e w12 ⟨v451,rfl,ho0,hb⟩;refine⟨_,rfl,?_⟩;have HO452:=hv w (fun k_=>k_≠gb449) ho0 (fun k_ hk_=>Or.elim hk_ (fun hs_=>fun e_=>Nat.not_le.2 hs_ (by rw[e_];exact GW449.out)) (fb BK449 ·));replace BK449:=bb BK449 hb;replace HB:=sb HB hb;(try clear hb);(try clear ho0)))
  replace HO452:=m0 (Kd.V_drew HO452.out);replace BK449:=bd BK449;replace HB:=sd HB;refine start_ (n:=13) (S:=fun w'=>w'.cell? ⟨gb449,0,none⟩=some (.int .i64 a2_0)∧w'.cell? ⟨gb449,1,none⟩=some (.int .i64 a2_1)) (ds:=[]) _ (by kernel_rfl) rfl rfl cz (fun hH=>?_);refine with_tabW L_VisibilityOf.tab2 L_VisibilityOf.bits2 (fun HT_ HW_=>?_);generalize w12.drew=w13 at HO452 BK449 HB hH ⊢;refine pZ 0 (some 18) (bs 13 1) HT_ ?_;refine pZ 1 (some 19) (bs 13 3) HT_ ?_;refine pZ 5 (some 23) (bs 13 35) HT_ ?_;refine pZ 7 (some 25) (bs 13 163) HT_ ?_;refine takeZ 3 (some 21) (bs 13 171) (tw HT_ HW_) hH ?_;refine oneZ 2 (some 20) (bs 13 175) (o1 HT_) fun K hK=>?_;refine gz Tryz.func55 #[.int .i64 a1] ?_
  with_reducible refine(L_constantErr.calls a1 t454 _ A5.out).mono ?_
  rintro e w' ⟨rfl,⟨nd,rfl⟩⟩;refine⟨_,rfl,?_⟩;refine hK.out _ _ cz (fun hH=>?_);clear hK K;refine nz 20 ?_;refine oneZ 4 (some 22) (bs 13 191) (o1 HT_) fun K hK=>?_;refine gz Tryz.func56 #[.agg #[.int .i64 a2_0,.int .i64 a2_1]] ?_
  with_reducible refine(L_partErr.calls k a2_0 a2_1 t455 _ A6.out).mono ?_
  rintro e w14 ⟨rfl,hb⟩;refine⟨_,rfl,?_⟩;replace HO452:=vb HO452 hb;replace BK449:=bb BK449 hb;replace HB:=sb HB hb;(try clear hb);obtain⟨Ao15,co15,eo15⟩:=Kd.V_slice HO452.out;subst eo15;refine hK.out _ _ cz (fun hH=>?_);clear hK K;refine nz 22 ?_;refine oneZ 6 (some 24) (bs 13 255) (o1 HT_) fun K hK=>?_;refine gz Tryz.func57 #[.slice Ao15 t450.length co15] ?_
  with_reducible refine(L_profile_sum.calls k _ _ t450 t456 _ ?side1 ?side2 A7.out).mono ?_
  (case side1=>exact bc (Kd.V_reads' HO452.out).2.2)
  (case side2=>exact(Kd.V_reads' HO452.out).2.1)
  rintro e w' ⟨rfl,⟨nd,rfl⟩⟩;refine⟨_,rfl,?_⟩;refine hK.out _ _ cz (fun hH=>?_);clear hK K;refine nz 24 ?_;refine pZ 8 (some 26) (bs 13 511) HT_ ?_;refine oneZ 9 (some 27) (bs 13 1023) (o1 HT_) fun K hK=>?_;refine gz Tryz.func49 #[.bool (decide (t456≤a1)),.int .i64 20] ?_
  with_reducible refine(L_unless.calls (decide (t456≤a1)) 20 t457 _ A8.out).mono ?_
  rintro e w' ⟨rfl,⟨nd,rfl⟩⟩;refine⟨_,rfl,?_⟩;refine hK.out _ _ cz (fun hH=>?_);clear hK K;refine nz 27 ?_;refine oneZ 10 (some 28) (bs 13 2047) (o1 HT_) fun K hK=>?_;refine Kd.R_lit_step (Kd.int .i64) _ 35 ?hg (N:=28) ?hd (xs:=([t453,t454,t455,t457]:List Int)) (inner:=[.int .i64 t453,.int .i64 t454,.int .i64 t455,.int .i64 t457]) (ok:=fun _=>True) (okp:=fun _=>True) ?hr ?hp (fun _ hk=>hk) trivial (Below.refl _ _) (Nat.le_refl _) (by simp) ?_;(case hd=>rfl);(case hg=>rfl);(case hr=>first|(go_simp;done)|(go_simp;rfl));(case hp=>exact(Reps.one (ki t453) (Reps.one (ki t454) (Reps.one (ki t455) (Reps.one (ki t457) (Reps.none _ _))))))
  intro v459 w16 ho17 hb hg_ hnew_;clear hg_ hnew_
  (first|rw[← Ny458.out]at ho17|(simp only[Int.reduceToNat]at ho17;rw[← Ny458.out]at ho17))
  replace HO452:=m0 (Kd.V_elder' (by(with_reducible repeat(first|apply Kd.V_alloc|apply Kd.V_drewN|apply Kd.V_drew));exact HO452.out) (Kd.R_base ho17) hb);have HO460:=m0 (Kd.R_lower ho17 (below_size bz));replace BK449:=bb BK449 hb;replace HB:=sb HB hb;clear hb ho17;obtain⟨Ao18,co18,eo18⟩:=Kd.R_slice HO460.out;subst eo18;refine hK.out _ _ cz (fun hH=>?_);clear hK K;refine nz 28 ?_;refine oneZ 11 (some 29) (bs 13 4095) (o1 HT_) fun K hK=>?_;refine gz Tryz.func48 #[.slice Ao18 y458.length co18] ?_
  with_reducible refine(L_first.calls k _ _ y458 t461 _ ?side1 ?side2 A9.out).mono ?_
  (case side1=>exact bc (Kd.R_reads' HO460.out).2.2)
  (case side2=>exact(Kd.R_reads' HO460.out).2.1)
  rintro e w' ⟨rfl,⟨nd,rfl⟩⟩;refine⟨_,rfl,?_⟩;refine hK.out _ _ cz (fun hH=>?_);clear hK K;refine nz 29 ?_;refine pZ 12 (some 9) (bs 13 8191) HT_ ?_;refine done_ (done_of HT_.out (by kernel_rfl)) ?_
  try go_wp2
  go_loopg [10,36] k (fun kq v10 v36 w'=>∃ (x10_1:Int) (x36_1:Int),v10= .int .i64 x10_1∧v36= .int .i64 x36_1∧Aside0 (L_VisibilityOf.l0 kq a1 t450 x10_1 t450 (t450.length:Int) x36_1 a2_0 a2_1=some (r1,r2))∧Aside0 (kq≤k)∧Aside0 (Kd.V (Kd.int .i64) 3 w' w.heap.size (fun k_=>k_≠gb449) (.slice Ao15 t450.length co15) t450)∧Aside0 (Kd.V (Kd.int .i64) 3 w' w.heap.size (fun k_=>k_≠gb449) (.slice Ao15 t450.length co15) t450)∧Aside0 (w'.heap[gb449]?=some (.cells #[.int .i64 a2_0,.int .i64 a2_1] 24 (0,0)))∧Aside0 (Below w.heap.size w w'))
  case atStart=>exact⟨(a1),(0),rz,rz,H',⟨Nat.le_refl _⟩,⟨by (with_reducible repeat(first|apply Kd.V_alloc|apply Kd.V_drewN|apply Kd.V_drew));exact Kd.V_mono HO452.out (fun _ hk=>hk.1)⟩,⟨by (with_reducible repeat(first|apply Kd.V_alloc|apply Kd.V_drewN|apply Kd.V_drew));exact Kd.V_mono HO452.out (fun _ hk=>hk.1)⟩,⟨bk BK449.out⟩,⟨bz⟩⟩
  case round=>
   clear H';obtain⟨x10_1,x36_1,rfl,rfl,HA,HK1,HO_8,HO_34,BK449,HB⟩:=hrel
   cases gk with
   |zero=>exact absurd HA.out (by simp[L_VisibilityOf.l0])
   | succ k1=>
    have H:=HA.out;clear HA;simp only[L_VisibilityOf.l0]at H
    by_cases c19:x36_1<(t450.length:Int)
    ·rw [if_pos c19]at H;have c19b0:=decide_eq_true c19;clear c19
     by_cases c20:0≤x36_1
     ·rw [if_pos c20]at H;have c20b0:=decide_eq_true c20;clear c20
      by_cases c21:x36_1<(t450.length:Int)
      ·rw [if_pos c21]at H;have c21b0:=decide_eq_true c21;clear c21
       by_cases c22:(wrap64 ((wrap64 (x10_1-(rd t450 x36_1)))*a2_1))≤(wrap64 (a2_0*a1))
       ·rw [if_pos c22]at H;have c22b0:=decide_eq_true c22;clear c22;simp only[Option.some.injEq,Prod.mk.injEq]at H;obtain⟨rfl,rfl⟩:=H;have p462:0≤(x36_1:Int):=od;have q462:x36_1<(t450.length:Int):=od;obtain⟨ad462,e462,hx462_0⟩:=Kd.at_int (Kd.V_reads' HO_34.out).2.2 x36_1 p462 q462
        cases e462
        replace p462:=eq_true p462;replace q462:=eq_true q462;obtain⟨_,_,_,_⟩:=b2 BK449
        go_wp2
        go_ret2
        exact ez
       ·rw [if_neg c22]at H;have c22b0:=decide_eq_false c22;clear c22;have H':=m0 H;clear H;have p462:0≤(x36_1:Int):=od;have q462:x36_1<(t450.length:Int):=od;obtain⟨ad462,e462,hx462_0⟩:=Kd.at_int (Kd.V_reads' HO_34.out).2.2 x36_1 p462 q462
        cases e462
        replace p462:=eq_true p462;replace q462:=eq_true q462;obtain⟨_,_,_,_⟩:=b2 BK449
        go_wp2
        go_roundg k1
        case measure=>have:=HK1.out;omega
        case rel=>exact⟨(wrap64 (x10_1-(rd t450 x36_1))),(wrap64 (x36_1+1)),rz,rz,H',⟨by have:=HK1.out;omega⟩,⟨by (with_reducible repeat(first|apply Kd.V_alloc|apply Kd.V_drewN|apply Kd.V_drew));exact HO_8.out⟩,⟨by (with_reducible repeat(first|apply Kd.V_alloc|apply Kd.V_drewN|apply Kd.V_drew));exact HO_34.out⟩,⟨bk BK449.out⟩,⟨bz⟩⟩
      ·rw [if_neg c21]at H;exact absurd H (by simp)
     ·rw [if_neg c20]at H;exact absurd H (by simp)
    ·rw [if_neg c19]at H;have c19b0:=decide_eq_false c19;clear c19;simp only[Option.some.injEq,Prod.mk.injEq]at H;obtain⟨rfl,rfl⟩:=H
     go_wp2
     go_ret2
     exact ez
 ·rw [if_neg c10]at H;have c10b0:=beq_eq_false_iff_ne.mpr c10;have c10b1:=bne_iff_ne.mpr c10;simp only[Option.some.injEq,Prod.mk.injEq]at H;obtain⟨rfl,rfl⟩:=H;go_enter Tryz.func17,Tryz.ntmps17
  try go_wp2_with (first|((with_reducible refine ga 5 rfl ?_);refine be 5 24 #[.int .i64 a2_0,.int .i64 a2_1] ?_;intro gb449 hg w25 hbox hb;have BK449:=m0 hbox;have GW449:=gw w hg;have GE449:=gw w hg;replace HB:=sb HB hb;clear hb hbox hg)|((with_reducible refine gc 45 rfl ?_);refine gl (some 15) Tryz.func45 #[.slice A0 l0.length c0] ?_;(with_reducible refine(L_open.calls k (fun k_=>k_<w.heap.size) _ _ l0 t450 t453 _ ?side1 A4.out).mono ?_);(case side1=>exact Kd.V_mk HC0.out (Kd.F_below (Kd.C_F (Kd.heap_int .i64) HR0.out) bz));rintro e w26 ⟨v451,rfl,ho0,hb⟩;refine⟨_,rfl,?_⟩;have HO452:=hv w (fun k_=>k_≠gb449) ho0 (fun k_ hk_=>Or.elim hk_ (fun hs_=>fun e_=>Nat.not_le.2 hs_ (by rw[e_];exact GW449.out)) (fb BK449 ·));replace BK449:=bb BK449 hb;replace HB:=sb HB hb;(try clear hb);(try clear ho0)))
  replace HO452:=m0 (Kd.V_drew HO452.out);replace BK449:=bd BK449;replace HB:=sd HB;refine start_ (n:=13) (S:=fun w'=>w'.cell? ⟨gb449,0,none⟩=some (.int .i64 a2_0)∧w'.cell? ⟨gb449,1,none⟩=some (.int .i64 a2_1)) (ds:=[]) _ (by kernel_rfl) rfl rfl cz (fun hH=>?_);refine with_tabW L_VisibilityOf.tab2 L_VisibilityOf.bits2 (fun HT_ HW_=>?_);generalize w26.drew=w27 at HO452 BK449 HB hH ⊢;refine pZ 0 (some 18) (bs 13 1) HT_ ?_;refine pZ 1 (some 19) (bs 13 3) HT_ ?_;refine pZ 5 (some 23) (bs 13 35) HT_ ?_;refine pZ 7 (some 25) (bs 13 163) HT_ ?_;refine takeZ 3 (some 21) (bs 13 171) (tw HT_ HW_) hH ?_;refine oneZ 2 (some 20) (bs 13 175) (o1 HT_) fun K hK=>?_;refine gz Tryz.func55 #[.int .i64 a1] ?_
  with_reducible refine(L_constantErr.calls a1 t454 _ A5.out).mono ?_
  rintro e w' ⟨rfl,⟨nd,rfl⟩⟩;refine⟨_,rfl,?_⟩;refine hK.out _ _ cz (fun hH=>?_);clear hK K;refine nz 20 ?_;refine oneZ 4 (some 22) (bs 13 191) (o1 HT_) fun K hK=>?_;refine gz Tryz.func56 #[.agg #[.int .i64 a2_0,.int .i64 a2_1]] ?_
  with_reducible refine(L_partErr.calls k a2_0 a2_1 t455 _ A6.out).mono ?_
  rintro e w28 ⟨rfl,hb⟩;refine⟨_,rfl,?_⟩;replace HO452:=vb HO452 hb;replace BK449:=bb BK449 hb;replace HB:=sb HB hb;(try clear hb);obtain⟨Ao29,co29,eo29⟩:=Kd.V_slice HO452.out;subst eo29;refine hK.out _ _ cz (fun hH=>?_);clear hK K;refine nz 22 ?_;refine oneZ 6 (some 24) (bs 13 255) (o1 HT_) fun K hK=>?_;refine gz Tryz.func57 #[.slice Ao29 t450.length co29] ?_
  with_reducible refine(L_profile_sum.calls k _ _ t450 t456 _ ?side1 ?side2 A7.out).mono ?_
  (case side1=>exact bc (Kd.V_reads' HO452.out).2.2)
  (case side2=>exact(Kd.V_reads' HO452.out).2.1)
  rintro e w' ⟨rfl,⟨nd,rfl⟩⟩;refine⟨_,rfl,?_⟩;refine hK.out _ _ cz (fun hH=>?_);clear hK K;refine nz 24 ?_;refine pZ 8 (some 26) (bs 13 511) HT_ ?_;refine oneZ 9 (some 27) (bs 13 1023) (o1 HT_) fun K hK=>?_;refine gz Tryz.func49 #[.bool (decide (t456≤a1)),.int .i64 20] ?_
  with_reducible refine(L_unless.calls (decide (t456≤a1)) 20 t457 _ A8.out).mono ?_
  rintro e w' ⟨rfl,⟨nd,rfl⟩⟩;refine⟨_,rfl,?_⟩;refine hK.out _ _ cz (fun hH=>?_);clear hK K;refine nz 27 ?_;refine oneZ 10 (some 28) (bs 13 2047) (o1 HT_) fun K hK=>?_;refine Kd.R_lit_step (Kd.int .i64) _ 35 ?hg (N:=28) ?hd (xs:=([t453,t454,t455,t457]:List Int)) (inner:=[.int .i64 t453,.int .i64 t454,.int .i64 t455,.int .i64 t457]) (ok:=fun _=>True) (okp:=fun _=>True) ?hr ?hp (fun _ hk=>hk) trivial (Below.refl _ _) (Nat.le_refl _) (by simp) ?_;(case hd=>rfl);(case hg=>rfl);(case hr=>first|(go_simp;done)|(go_simp;rfl));(case hp=>exact(Reps.one (ki t453) (Reps.one (ki t454) (Reps.one (ki t455) (Reps.one (ki t457) (Reps.none _ _))))))
  intro v459 w30 ho31 hb hg_ hnew_;clear hg_ hnew_
  (first|rw[← Ny458.out]at ho31|(simp only[Int.reduceToNat]at ho31;rw[← Ny458.out]at ho31))
  replace HO452:=m0 (Kd.V_elder' (by(with_reducible repeat(first|apply Kd.V_alloc|apply Kd.V_drewN|apply Kd.V_drew));exact HO452.out) (Kd.R_base ho31) hb);have HO460:=m0 (Kd.R_lower ho31 (below_size bz));replace BK449:=bb BK449 hb;replace HB:=sb HB hb;clear hb ho31;obtain⟨Ao32,co32,eo32⟩:=Kd.R_slice HO460.out;subst eo32;refine hK.out _ _ cz (fun hH=>?_);clear hK K;refine nz 28 ?_;refine oneZ 11 (some 29) (bs 13 4095) (o1 HT_) fun K hK=>?_;refine gz Tryz.func48 #[.slice Ao32 y458.length co32] ?_
  with_reducible refine(L_first.calls k _ _ y458 t461 _ ?side1 ?side2 A9.out).mono ?_
  (case side1=>exact bc (Kd.R_reads' HO460.out).2.2)
  (case side2=>exact(Kd.R_reads' HO460.out).2.1)
  rintro e w' ⟨rfl,⟨nd,rfl⟩⟩;refine⟨_,rfl,?_⟩;refine hK.out _ _ cz (fun hH=>?_);clear hK K;refine nz 29 ?_;refine pZ 12 (some 9) (bs 13 8191) HT_ ?_;refine done_ (done_of HT_.out (by kernel_rfl)) ?_
  try go_wp2
  go_ret2
  exact ez
end
end Go.Proofs.YteiafijbgjgiaaaGreat.A
