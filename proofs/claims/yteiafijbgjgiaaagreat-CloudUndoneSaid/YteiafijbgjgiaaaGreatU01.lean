/- Walks of the program's functions (printed, made shorter), each with what it computes. -/
import Derived.Test.YteiafijbgjgiaaaGreatB06
import Derived.Test.YteiafijbgjgiaaaGreatB05
import Derived.Test.YteiafijbgjgiaaaGreatB07
namespace Go.Proofs.YteiafijbgjgiaaaGreat.A
set_option maxHeartbeats 8000000
set_option maxRecDepth 100000
open Go.RowKit Go.Proofs.YteiafijbgjgiaaaGreatW.PrintWords Go.Proofs.YteiafijbgjgiaaaGreatW.PrintLast Go.Proofs.YteiafijbgjgiaaaGreatW.PrintMore
attribute [local go_sem] max2_int min2_int max_two min_two max_three min_three max_four min_four
set_option linter.unusedVariables false
set_option linter.unusedSimpArgs false
section
def Lw_few.f (l0:List Int):Option (Bool):=some (decide ((l0.length:Int)≤26))
theorem Lw_few.calls (A0:Option Addr) (c0:Nat) (l0:List Int) (r:Bool) (w:World) (hr0:Kd.C (Kd.int .i64) w A0 l0.length l0) (hc0:l0.length≤c0) (H:Lw_few.f l0=some r):
  Calls Tryz.prog 8 #[.slice A0 l0.length c0] w fun e w'=>e= .returned (.bool r)∧Drawn0 w w':=by
 have HR0:=m0 hr0;have HC0:=m0 hc0;clear hr0 hc0;unfold Lw_few.f at H;obtain rfl:=Option.some.inj H;go_enter Tryz.func8,Tryz.ntmps8
 go_wp2
 go_ret
 exact⟨rz,by repeat(first|exact Drawn0.refl _|apply Drawn0.step)⟩
end
section
def Bs_Within.f (a0:Int) (a1:Int) (a2:Int):Option (Bool):=if a1≤a0 then(some (decide (a0≤a2)))else(some false)
theorem Bs_Within.calls (a0:Int) (a1:Int) (a2:Int) (r:Bool) (w:World) (H:Bs_Within.f a0 a1 a2=some r):
  Calls Tryz.prog 11 #[.int .i64 a0,.int .i64 a1,.int .i64 a2] w fun e w'=>e= .returned (.bool r)∧Drawn0 w w':=by
 unfold Bs_Within.f at H
 by_cases c4:a1≤a0
 ·rw [if_pos c4]at H;have c4b0:=decide_eq_true c4;clear c4;obtain rfl:=Option.some.inj H;go_enter Tryz.func11,Tryz.ntmps11
  go_wp2
  go_ret
  exact⟨rz,by repeat(first|exact Drawn0.refl _|apply Drawn0.step)⟩
 ·rw [if_neg c4]at H;have c4b0:=decide_eq_false c4;clear c4;obtain rfl:=Option.some.inj H;go_enter Tryz.func11,Tryz.ntmps11
  go_wp2
  go_ret
  exact⟨rz,by repeat(first|exact Drawn0.refl _|apply Drawn0.step)⟩
end
section
def Rf_CheckProfile.l0:Nat→List Int→Int→Option (Int×Int)
  |0,_,_=>none
  |k+1,x0,x4=>if x4<(x0.length:Int)then(if 0≤x4 then((Bs_Within.f (rd x0 x4) 0 10000).bind fun t387=>(if t387=true then(Rf_CheckProfile.l0 k x0 (wrap64 (x4+1)))else(some (x4,2))))else(none))else(some (0,0))
def Rf_CheckProfile.f (k:Nat) (l0:List Int):Option (Int×Int):=if(l0.length:Int)=0 then(some (0,10))else(if(l0.length:Int)>24 then(some (0,8))else(Rf_CheckProfile.l0 k l0 0))
theorem Rf_CheckProfile.mono_l:∀ k,(∀ y0 y1,LeO (Rf_CheckProfile.l0 k y0 y1) (Rf_CheckProfile.l0 (k+1) y0 y1))
  |0=>fun _ _ r h=>by simp[Rf_CheckProfile.l0]at h
  | k + 1=>by
    have ih0:=Rf_CheckProfile.mono_l k
    · intro y0 y1;unfold Rf_CheckProfile.l0
      repeat' with_reducible first
        |exact ih0 ..
        |exact LeO.refl ..
        |exact LeO.none ..
        |refine LeO.ite ?_ ?_
        |refine LeO.bind ?_ (fun _=>?_)
theorem Rf_CheckProfile.mono:∀ a0 k,LeO (Rf_CheckProfile.f k a0) (Rf_CheckProfile.f (k+1) a0):=by
  intro a0 k;have ih0:=Rf_CheckProfile.mono_l k;unfold Rf_CheckProfile.f
  repeat' with_reducible first
    |exact ih0 ..
    |exact LeO.refl ..
    |exact LeO.none ..
    |refine LeO.ite ?_ ?_
    |refine LeO.bind ?_ (fun _=>?_)
theorem Rf_CheckProfile.calls (k:Nat) (A0:Option Addr) (c0:Nat) (l0:List Int) (r1:Int) (r2:Int) (w:World) (hr0:Kd.C (Kd.int .i64) w A0 l0.length l0) (hc0:l0.length≤c0) (H:Rf_CheckProfile.f k l0=some (r1,r2)):
    Calls Tryz.prog 44 #[.slice A0 l0.length c0] w fun e w'=>e= .returned (.tuple #[.int .i64 r1,.int .i64 r2])∧Drawn0 w w':=by
  have HR0:=m0 hr0;have HC0:=m0 hc0;clear hr0 hc0;unfold Rf_CheckProfile.f at H
  by_cases c2:(l0.length:Int)=0
  · rw[if_pos c2]at H;have c2b0:=beq_iff_eq.mpr c2;have c2b1:=bne_eq_false_iff_eq.mpr c2;clear c2;simp only[Option.some.injEq,Prod.mk.injEq]at H;obtain⟨rfl,rfl⟩:=H;go_enter Tryz.func44,Tryz.ntmps44
    go_wp2
    go_ret2
    exact⟨rz,by repeat(first|exact Drawn0.refl _|apply Drawn0.step)⟩
  · rw [if_neg c2]at H;have c2b0:=beq_eq_false_iff_ne.mpr c2;have c2b1:=bne_iff_ne.mpr c2;have c2b2:¬ (l0=[]):=fun h_=>c2 (by rw[h_];rfl)
    by_cases c3:(l0.length:Int)>24
    · rw[if_pos c3]at H;have c3b0:=decide_eq_true c3;have c3b1:decide (24<l0.length)=true:=decide_eq_true (by omega);clear c3;simp only[Option.some.injEq,Prod.mk.injEq]at H;obtain⟨rfl,rfl⟩:=H;go_enter Tryz.func44,Tryz.ntmps44
      go_wp2
      go_ret2
      exact⟨rz,by repeat(first|exact Drawn0.refl _|apply Drawn0.step)⟩
    · rw [if_neg c3]at H;have c3b0:=decide_eq_false c3;have c3b1:decide (24<l0.length)=false:=decide_eq_false (by omega);clear c3;have H':=m0 H;clear H;go_enter Tryz.func44,Tryz.ntmps44
      go_wp2
      go_loopg [4] k (fun kq v4 w'=>∃ (x4_1:Int),v4= .int .i64 x4_1∧Aside0 (Rf_CheckProfile.l0 kq l0 x4_1=some (r1,r2))∧Aside0 (kq≤k)∧Drawn0 w w')
      case atStart=>exact⟨(0),rz,H',⟨Nat.le_refl _⟩,by repeat(first|exact Drawn0.refl _|apply Drawn0.step)⟩
      case round=>
        clear H';obtain⟨x4_1,rfl,HA,HK1,⟨m1,rfl⟩⟩:=hrel
        cases gk with
        |zero=>exact absurd HA.out (by simp[Rf_CheckProfile.l0])
        | succ k1=>
          have H:=HA.out;clear HA;simp only[Rf_CheckProfile.l0]at H
          by_cases c4:x4_1<(l0.length:Int)
          · rw [if_pos c4]at H;have c4b0:=decide_eq_true c4;clear c4
            by_cases c5:0≤x4_1
            · rw[if_pos c5]at H;have c5b0:=decide_eq_true c5;clear c5;replace H:=oa H;obtain⟨t387,A6,H⟩:=H;(try dsimp only at H)
              by_cases c7:t387=true
              · subst c7;rw[if_pos rfl]at H;have H':=m0 H;clear H;have p386:0≤(x4_1:Int):=od;have q386:x4_1<(l0.length:Int):=od;obtain⟨ad386,e386,hx386_0⟩:=Kd.at_int HR0.out x4_1 p386 q386
                cases e386
                replace p386:=eq_true p386;replace q386:=eq_true q386
                go_wp2_with (first|((with_reducible refine gc 11 rfl ?_);refine gl (some 21) Tryz.func11 #[.int .i64 (rd l0 x4_1),.int .i64 0,.int .i64 10000] ?_;(with_reducible refine(Bs_Within.calls (rd l0 x4_1) 0 10000 true _ A6.out).mono ?_);rintro e w' ⟨rfl,⟨nd,rfl⟩⟩;refine⟨_,rfl,?_⟩))
                go_roundg k1
                case measure=>have:=HK1.out;omega
                case rel=>exact⟨(wrap64 (x4_1+1)),rz,H',⟨by have:=HK1.out;omega⟩,by repeat(first|exact Drawn0.refl _|apply Drawn0.step)⟩
              · replace c7:=Bool.eq_false_iff.mpr c7;subst c7;rw[if_neg (show ¬ (false=true) by decide)]at H;simp only[Option.some.injEq,Prod.mk.injEq]at H;obtain⟨rfl,rfl⟩:=H;have p386:0≤(x4_1:Int):=od;have q386:x4_1<(l0.length:Int):=od;obtain⟨ad386,e386,hx386_0⟩:=Kd.at_int HR0.out x4_1 p386 q386
                cases e386
                replace p386:=eq_true p386;replace q386:=eq_true q386
                go_wp2_with (first|((with_reducible refine gc 11 rfl ?_);refine gl (some 21) Tryz.func11 #[.int .i64 (rd l0 x4_1),.int .i64 0,.int .i64 10000] ?_;(with_reducible refine(Bs_Within.calls (rd l0 x4_1) 0 10000 false _ A6.out).mono ?_);rintro e w' ⟨rfl,⟨nd,rfl⟩⟩;refine⟨_,rfl,?_⟩))
                go_ret2
                exact⟨rz,by repeat(first|exact Drawn0.refl _|apply Drawn0.step)⟩
            · rw[if_neg c5]at H;exact absurd H (by simp)
          · rw[if_neg c4]at H;have c4b0:=decide_eq_false c4;clear c4;simp only[Option.some.injEq,Prod.mk.injEq]at H;obtain⟨rfl,rfl⟩:=H
            go_wp2
            go_ret2
            exact⟨rz,by repeat(first|exact Drawn0.refl _|apply Drawn0.step)⟩
end
section
def Rf_ProfileErr.f (k:Nat) (l0:List Int):Option (Int):=(Rf_CheckProfile.f k l0).bind fun bt388=>(some bt388.2)
theorem Rf_ProfileErr.mono:∀ a0 k,LeO (Rf_ProfileErr.f k a0) (Rf_ProfileErr.f (k+1) a0):=by
 intro a0 k;unfold Rf_ProfileErr.f
 repeat' with_reducible first
  |exact Rf_CheckProfile.mono ..
  |exact LeO.refl ..
  |exact LeO.none ..
  |refine LeO.ite ?_ ?_
  |refine LeO.bind ?_ (fun _=>?_)
theorem Rf_ProfileErr.calls (k:Nat) (A0:Option Addr) (c0:Nat) (l0:List Int) (r:Int) (w:World) (hr0:Kd.C (Kd.int .i64) w A0 l0.length l0) (hc0:l0.length≤c0) (H:Rf_ProfileErr.f k l0=some r):
  Calls Tryz.prog 9 #[.slice A0 l0.length c0] w fun e w'=>e= .returned (.int .i64 r)∧Drawn0 w w':=by
 have HR0:=m0 hr0;have HC0:=m0 hc0;clear hr0 hc0;unfold Rf_ProfileErr.f at H;replace H:=oa H;obtain⟨⟨t388,t389⟩,A2,H⟩:=H;(try dsimp only at H);obtain rfl:=Option.some.inj H;go_enter Tryz.func9,Tryz.ntmps9
 go_wp2_with (first|((with_reducible refine gc 44 rfl ?_);refine gl (some 7) Tryz.func44 #[.slice A0 l0.length c0] ?_;(with_reducible refine(Rf_CheckProfile.calls k _ _ l0 t388 t389 _ ?side1 ?side2 A2.out).mono ?_);(case side1=>repeat(first|exact HR0.out|(with_reducible refine Kd.C_alloc ?_ _)|(with_reducible refine Kd.C_drewN ?_ _)|(with_reducible refine Kd.C_drew ?_)));(case side2=>exact HC0.out);rintro e w' ⟨rfl,⟨nd,rfl⟩⟩;refine⟨_,rfl,?_⟩))
 go_ret
 exact⟨rz,by repeat(first|exact Drawn0.refl _|apply Drawn0.step)⟩
end
section
def Bs_CopyInts.f (l0:List Int):Option (List Int):=(some (([]:List Int):List Int)).bind fun y430=>(if y430.length+l0.length<17592186044416 then(some (y430++l0))else(none))
theorem Bs_CopyInts.calls (A0:Option Addr) (c0:Nat) (l0:List Int) (r:List Int) (w:World) (hr0:Kd.C (Kd.int .i64) w A0 l0.length l0) (hc0:l0.length≤c0) (H:Bs_CopyInts.f l0=some r):
  Calls Tryz.prog 13 #[.slice A0 l0.length c0] w fun e w'=>∃ v0_:Value,e= .returned (v0_)∧Kd.R (Kd.int .i64) 3 w' w.heap.size (fun _=>True) v0_ r∧Below w.heap.size w w':=by
 have HR0:=m0 hr0;have HC0:=m0 hc0;clear hr0 hc0;have HB:=m0 (Below.refl w.heap.size w);unfold Bs_CopyInts.f at H;obtain⟨y430,hy430⟩:∃ y_:List Int,y_=(([]:List Int)):=⟨_,rfl⟩;replace H:(if y430.length+l0.length<17592186044416 then(some (y430++l0))else(none))=some r:=by first|(rw[hy430];with_reducible exact H)|(have H2_:=(Option.bind_some _ _).symm.trans H;rw[hy430];with_reducible exact H2_)|(have H2_:=(Option.bind_some _ _).symm.trans H;with_reducible exact H2_)|with_reducible exact H|(rw[hy430];exact H)|exact H
 have Ny430:=m0 hy430;clear hy430
 by_cases c2:y430.length+l0.length<17592186044416
 ·rw [if_pos c2]at H;have LMc2:=m0 c2;clear c2;obtain⟨y433,hy433⟩:∃ y_:List Int,y_=(y430++l0):=⟨_,rfl⟩;replace H:(some y433)=some r:=by first|(rw[hy433];with_reducible exact H)|(have H2_:=(Option.bind_some _ _).symm.trans H;rw[hy433];with_reducible exact H2_)|(have H2_:=(Option.bind_some _ _).symm.trans H;with_reducible exact H2_)|with_reducible exact H|(rw[hy433];exact H)|exact H
  have Ny433:=m0 hy433;clear hy433;obtain rfl:=Option.some.inj H;go_enter Tryz.func13,Tryz.ntmps13
  go_wp2_with (first|((with_reducible refine ga 3 rfl ?_);refine Kd.R_lit (Kd.int .i64) _ 3 ?hg (N:=3) ?hd (xs:=([]:List Int)) (inner:=[]) (ok:=fun _=>True) (okp:=fun _=>True) ?hr ?hp (fun _ hk=>hk) trivial (Below.refl _ _) (Nat.le_refl _) (by simp) ?_;(case hd=>rfl);(case hg=>rfl);(case hr=>first|(go_simp;done)|(go_simp;rfl));(case hp=>exact(Reps.none _ _));intro v431 w3 ho4 hb hg_ hnew_;clear hg_ hnew_;(first|rw[← Ny430.out]at ho4|(simp only[Int.reduceToNat]at ho4;rw[← Ny430.out]at ho4));have HO432:=m0 (Kd.R_lower ho4 (below_size bz));replace HB:=sb HB hb;clear hb ho4)|((with_reducible refine gate_builtin (b:= .append) (xs:= #[.tmp 3,.tmp 4]) rfl ?_);at_builtin;refine Kd.R_append_rows (Kd.int .i64) (w0:=w) w.heap.size rfl (.tmp 3) (.tmp 4) 22 3 (.int .i64 0) 8 rfl Tryz.underlying22 info3 rfl (by decide) (by omega) v431 y430 l0 _ _ _ (fun _=>True) (fun _=>False) rfl rfl ?aO ?aR (fun _ _ h=>h) (fun _ h=>h.elim) ?aF ?aB ?aS ?aL ?_;(case aR=>exact cb HR0 HB);(case aB=>exact bz);(case aF=>exact(fun _ _=>trivial));(case aO=>exact(br HO432.out));(case aS=>exact(below_size bz));(case aL=>have:=LMc2.out;omega);intro v434 w5 ho hb hg hat;rw[← Ny433.out]at ho;have n0_:=m0 (hb);have n1_:=m0 (ho);clear HB;clear HO432;have HB:=n0_;have HO435:=n1_;clear n0_ n1_;clear ho hb hg hat))
  go_ret
  exact⟨_,by first|rfl|(simp[errW_none,errW_some]<;>rfl)|(simp[*,errW_none,errW_some]<;>rfl),by(with_reducible repeat(first|apply Kd.R_alloc|apply Kd.R_drewN|apply Kd.R_drew));exact HO435.out,by repeat(first|(with_reducible first|exact HB.out|apply below_alloc|apply pw_below_drewN|apply below_drew1)|exact HB.out)⟩
 ·rw [if_neg c2]at H;exact absurd H (by simp)
end
section
def Rf_ConstantErr.f (a0:Int):Option (Int):=(Bs_Within.f a0 1 1000000).bind fun t436=>(if t436=true then(some 0)else(some 2))
theorem Rf_ConstantErr.calls (a0:Int) (r:Int) (w:World) (H:Rf_ConstantErr.f a0=some r):
  Calls Tryz.prog 14 #[.int .i64 a0] w fun e w'=>e= .returned (.int .i64 r)∧Drawn0 w w':=by
 unfold Rf_ConstantErr.f at H;replace H:=oa H;obtain⟨t436,A2,H⟩:=H;(try dsimp only at H)
 by_cases c3:t436=true
 ·subst c3;rw[if_pos rfl]at H;obtain rfl:=Option.some.inj H;go_enter Tryz.func14,Tryz.ntmps14
  go_wp2_with (first|((with_reducible refine gc 11 rfl ?_);refine gl (some 4) Tryz.func11 #[.int .i64 a0,.int .i64 1,.int .i64 1000000] ?_;(with_reducible refine(Bs_Within.calls a0 1 1000000 true _ A2.out).mono ?_);rintro e w' ⟨rfl,⟨nd,rfl⟩⟩;refine⟨_,rfl,?_⟩))
  go_ret
  exact⟨rz,by repeat(first|exact Drawn0.refl _|apply Drawn0.step)⟩
 ·replace c3:=Bool.eq_false_iff.mpr c3;subst c3;rw[if_neg (show ¬ (false=true) by decide)]at H;obtain rfl:=Option.some.inj H;go_enter Tryz.func14,Tryz.ntmps14
  go_wp2_with (first|((with_reducible refine gc 11 rfl ?_);refine gl (some 4) Tryz.func11 #[.int .i64 a0,.int .i64 1,.int .i64 1000000] ?_;(with_reducible refine(Bs_Within.calls a0 1 1000000 false _ A2.out).mono ?_);rintro e w' ⟨rfl,⟨nd,rfl⟩⟩;refine⟨_,rfl,?_⟩))
  go_ret
  exact⟨rz,by repeat(first|exact Drawn0.refl _|apply Drawn0.step)⟩
end
section
def Bs_Size.f (a0:Int):Option (Int):=some (mx a0 (wrap64 (-a0)))
theorem Bs_Size.calls (a0:Int) (r:Int) (w:World) (H:Bs_Size.f a0=some r):
  Calls Tryz.prog 117 #[.int .i64 a0] w fun e w'=>e= .returned (.int .i64 r)∧Below w.heap.size w w':=by
 have HB:=m0 (Below.refl w.heap.size w);unfold Bs_Size.f at H;obtain⟨ji2,hji2⟩:∃ j_:Int,(mx a0 (wrap64 (-a0)))=j_:=⟨_,rfl⟩;replace H:(some ji2)=some r:=by first|(rw[hji2]at H;exact H)|(simp only[hji2]at H ⊢;exact H)
 have hji2_:(if a0<(wrap64 (-a0))then(wrap64 (-a0))else a0)=ji2:=hji2;obtain rfl:=Option.some.inj H;go_enter Tryz.func117,Tryz.ntmps117
 go_wp2
 go_ret
 exact⟨by first|rfl|(simp[errW_none,errW_some]<;>rfl)|(simp only[← hji2];first|rfl|(simp[errW_none,errW_some]<;>rfl))|(simp[*,errW_none,errW_some]<;>rfl),by repeat(first|(with_reducible first|exact HB.out|apply below_alloc|apply pw_below_drewN|apply below_drew1)|exact HB.out)⟩
end
section
def Bs_Gcd.l0:Nat→Int→Int→Option (Int)
 |0,_,_=>none
 |k+1,x0,x1=>if x1=0 then((Bs_Size.f x0).bind fun t437=>(some t437))else(Bs_Gcd.l0 k x1 (Int.tmod x0 x1))
def Bs_Gcd.f (k:Nat) (a0:Int) (a1:Int):Option (Int):=Bs_Gcd.l0 k a0 a1
theorem Bs_Gcd.mono_l:∀ k,(∀ y0 y1,LeO (Bs_Gcd.l0 k y0 y1) (Bs_Gcd.l0 (k+1) y0 y1))
 |0=>fun _ _ r h=>by simp[Bs_Gcd.l0]at h
 | k+1=>by
  have ih0:=Bs_Gcd.mono_l k
  ·intro y0 y1;unfold Bs_Gcd.l0
   repeat' with_reducible first
    |exact ih0 ..
    |exact LeO.refl ..
    |exact LeO.none ..
    |refine LeO.ite ?_ ?_
    |refine LeO.bind ?_ (fun _=>?_)
theorem Bs_Gcd.mono:∀ a0 a1 k,LeO (Bs_Gcd.f k a0 a1) (Bs_Gcd.f (k+1) a0 a1):=by
 intro a0 a1 k;have ih0:=Bs_Gcd.mono_l k;unfold Bs_Gcd.f
 repeat' with_reducible first
  |exact ih0 ..
  |exact LeO.refl ..
  |exact LeO.none ..
  |refine LeO.ite ?_ ?_
  |refine LeO.bind ?_ (fun _=>?_)
theorem Bs_Gcd.calls (k:Nat) (a0:Int) (a1:Int) (r:Int) (w:World) (H:Bs_Gcd.f k a0 a1=some r):
  Calls Tryz.prog 82 #[.int .i64 a0,.int .i64 a1] w fun e w'=>e= .returned (.int .i64 r)∧Below w.heap.size w w':=by
 have HB:=m0 (Below.refl w.heap.size w);unfold Bs_Gcd.f at H;have H':=m0 H;clear H;go_enter Tryz.func82,Tryz.ntmps82
 go_wp2
 repeat(go_quiet (fail);try go_wp2)
 go_loopg [0,1] k (fun kq v0 v1 w'=>∃ (x0_1:Int) (x1_1:Int),v0= .int .i64 x0_1∧v1= .int .i64 x1_1∧Aside0 (Bs_Gcd.l0 kq x0_1 x1_1=some r)∧Aside0 (kq≤k)∧Aside0 (Below w.heap.size w w'))
 case atStart=>exact⟨(a0),(a1),rz,rz,H',⟨Nat.le_refl _⟩,⟨bz⟩⟩
 case round=>
  clear H';obtain⟨x0_1,x1_1,rfl,rfl,HA,HK1,HB⟩:=hrel
  cases gk with
  |zero=>exact absurd HA.out (by simp[Bs_Gcd.l0])
  | succ k1=>
   have H:=HA.out;clear HA;simp only[Bs_Gcd.l0]at H
   by_cases c3:x1_1=0
   ·rw [if_pos c3]at H;have c3b0:=beq_iff_eq.mpr c3;have c3b1:=bne_eq_false_iff_eq.mpr c3;clear c3;replace H:=oa H;obtain⟨t437,A4,H⟩:=H;(try dsimp only at H);obtain rfl:=Option.some.inj H
    go_wp2_with (first|(go_at_call 117;(with_reducible refine(Bs_Size.calls x0_1 t437 _ A4.out).mono ?_);rintro e w5 ⟨rfl,hb⟩;replace HB:=sb HB hb;(try clear hb)))
    repeat(go_quiet (first|(go_at_call 117;(with_reducible refine(Bs_Size.calls x0_1 t437 _ A4.out).mono ?_);rintro e w5 ⟨rfl,hb⟩;replace HB:=sb HB hb;(try clear hb)));try go_wp2_with (first|(go_at_call 117;(with_reducible refine(Bs_Size.calls x0_1 t437 _ A4.out).mono ?_);rintro e w5 ⟨rfl,hb⟩;replace HB:=sb HB hb;(try clear hb))))
    go_ret
    exact ez
   ·rw [if_neg c3]at H;have c3b0:=beq_eq_false_iff_ne.mpr c3;have c3b1:=bne_iff_ne.mpr c3;have H':=m0 H;clear H
    go_wp2
    repeat(go_quiet (fail);try go_wp2)
    go_roundg k1
    case measure=>have:=HK1.out;omega
    case rel=>exact⟨(x1_1),(Int.tmod x0_1 x1_1),rz,rz,H',⟨by have:=HK1.out;omega⟩,⟨bz⟩⟩
end
section
def Bs_IsLowest.f (k:Nat) (a0_0:Int) (a0_1:Int):Option (Bool):=if a0_1>0 then((Bs_Gcd.f k a0_0 a0_1).bind fun t439=>(some (t439==1)))else(some false)
theorem Bs_IsLowest.mono:∀ a0 a1 k,LeO (Bs_IsLowest.f k a0 a1) (Bs_IsLowest.f (k+1) a0 a1):=by
 intro a0 a1 k;unfold Bs_IsLowest.f
 repeat' with_reducible first
  |exact Bs_Gcd.mono ..
  |exact LeO.refl ..
  |exact LeO.none ..
  |refine LeO.ite ?_ ?_
  |refine LeO.bind ?_ (fun _=>?_)
theorem Bs_IsLowest.calls (k:Nat) (a0_0:Int) (a0_1:Int) (r:Bool) (w:World) (H:Bs_IsLowest.f k a0_0 a0_1=some r):
  Calls Tryz.prog 54 #[.agg #[.int .i64 a0_0,.int .i64 a0_1]] w fun e w'=>e= .returned (.bool r)∧Below w.heap.size w w':=by
 have hu24:=Tryz.underlying24;have HB:=m0 (Below.refl w.heap.size w);unfold Bs_IsLowest.f at H
 by_cases c2:a0_1>0
 ·rw [if_pos c2]at H;have c2b0:=decide_eq_true c2;clear c2;replace H:=oa H;obtain⟨t439,A3,H⟩:=H;(try dsimp only at H);obtain rfl:=Option.some.inj H;go_enter Tryz.func54,Tryz.ntmps54
  go_wp2_with (first|((with_reducible refine ga 1 rfl ?_);refine be 1 24 #[.int .i64 a0_0,.int .i64 a0_1] ?_;intro gb438 hg w4 hbox hb;have BK438:=m0 hbox;have GE438:=gw w hg;replace HB:=sb HB hb;clear hb hbox hg;obtain⟨_,_,_,_⟩:=b2 BK438)|(go_at_call 82;(with_reducible refine(Bs_Gcd.calls k a0_0 a0_1 t439 _ A3.out).mono ?_);rintro e w6 ⟨rfl,hb⟩;replace BK438:=bb BK438 hb;replace HB:=sb HB hb;(try clear hb)))
  go_ret
  exact ez
 ·rw [if_neg c2]at H;have c2b0:=decide_eq_false c2;clear c2;obtain rfl:=Option.some.inj H;go_enter Tryz.func54,Tryz.ntmps54
  go_wp2_with (first|((with_reducible refine ga 1 rfl ?_);refine be 1 24 #[.int .i64 a0_0,.int .i64 a0_1] ?_;intro gb438 hg w7 hbox hb;have BK438:=m0 hbox;have GE438:=gw w hg;replace HB:=sb HB hb;clear hb hbox hg;obtain⟨_,_,_,_⟩:=b2 BK438))
  go_ret
  exact ez
end
section
def Rf_PartErr.f (k:Nat) (a0_0:Int) (a0_1:Int):Option (Int):=(Bs_IsLowest.f k a0_0 a0_1).bind fun t441=>(if t441=true then((Bs_Within.f a0_0 0 a0_1).bind fun t442=>(if t442=true then(if a0_1>1000000000 then(some 2)else(some 0))else(some 2)))else(some 3))
theorem Rf_PartErr.mono:∀ a0 a1 k,LeO (Rf_PartErr.f k a0 a1) (Rf_PartErr.f (k+1) a0 a1):=by
 intro a0 a1 k;unfold Rf_PartErr.f
 repeat' with_reducible first
  |exact Bs_IsLowest.mono ..
  |exact LeO.refl ..
  |exact LeO.none ..
  |refine LeO.ite ?_ ?_
  |refine LeO.bind ?_ (fun _=>?_)
theorem Rf_PartErr.calls (k:Nat) (a0_0:Int) (a0_1:Int) (r:Int) (w:World) (H:Rf_PartErr.f k a0_0 a0_1=some r):
  Calls Tryz.prog 15 #[.agg #[.int .i64 a0_0,.int .i64 a0_1]] w fun e w'=>e= .returned (.int .i64 r)∧Below w.heap.size w w':=by
 have hu24:=Tryz.underlying24;have HB:=m0 (Below.refl w.heap.size w);unfold Rf_PartErr.f at H;replace H:=oa H;obtain⟨t441,A2,H⟩:=H;(try dsimp only at H)
 by_cases c3:t441=true
 ·subst c3;rw[if_pos rfl]at H;replace H:=oa H;obtain⟨t442,A4,H⟩:=H;(try dsimp only at H)
  by_cases c5:t442=true
  ·subst c5;rw[if_pos rfl]at H
   by_cases c6:a0_1>1000000000
   ·rw [if_pos c6]at H;have c6b0:=decide_eq_true c6;clear c6;obtain rfl:=Option.some.inj H;go_enter Tryz.func15,Tryz.ntmps15
    go_wp2_with (first|((with_reducible refine ga 1 rfl ?_);refine be 1 24 #[.int .i64 a0_0,.int .i64 a0_1] ?_;intro gb440 hg w7 hbox hb;have BK440:=m0 hbox;have GE440:=gw w hg;replace HB:=sb HB hb;clear hb hbox hg;obtain⟨_,_,_,_⟩:=b2 BK440)|((with_reducible refine gc 54 rfl ?_);refine gl (some 4) Tryz.func54 #[.agg #[.int .i64 a0_0,.int .i64 a0_1]] ?_;(with_reducible refine(Bs_IsLowest.calls k a0_0 a0_1 true _ A2.out).mono ?_);rintro e w9 ⟨rfl,hb⟩;refine⟨_,rfl,?_⟩;replace BK440:=bb BK440 hb;replace HB:=sb HB hb;(try clear hb);obtain⟨_,_,_,_⟩:=b2 BK440)|((with_reducible refine gc 11 rfl ?_);refine gl (some 10) Tryz.func11 #[.int .i64 a0_0,.int .i64 0,.int .i64 a0_1] ?_;(with_reducible refine(Bs_Within.calls a0_0 0 a0_1 true _ A4.out).mono ?_);rintro e w' ⟨rfl,⟨nd,rfl⟩⟩;refine⟨_,rfl,?_⟩))
    go_ret
    exact ez
   ·rw [if_neg c6]at H;have c6b0:=decide_eq_false c6;clear c6;obtain rfl:=Option.some.inj H;go_enter Tryz.func15,Tryz.ntmps15
    go_wp2_with (first|((with_reducible refine ga 1 rfl ?_);refine be 1 24 #[.int .i64 a0_0,.int .i64 a0_1] ?_;intro gb440 hg w11 hbox hb;have BK440:=m0 hbox;have GE440:=gw w hg;replace HB:=sb HB hb;clear hb hbox hg;obtain⟨_,_,_,_⟩:=b2 BK440)|((with_reducible refine gc 54 rfl ?_);refine gl (some 4) Tryz.func54 #[.agg #[.int .i64 a0_0,.int .i64 a0_1]] ?_;(with_reducible refine(Bs_IsLowest.calls k a0_0 a0_1 true _ A2.out).mono ?_);rintro e w13 ⟨rfl,hb⟩;refine⟨_,rfl,?_⟩;replace BK440:=bb BK440 hb;replace HB:=sb HB hb;(try clear hb);obtain⟨_,_,_,_⟩:=b2 BK440)|((with_reducible refine gc 11 rfl ?_);refine gl (some 10) Tryz.func11 #[.int .i64 a0_0,.int .i64 0,.int .i64 a0_1] ?_;(with_reducible refine(Bs_Within.calls a0_0 0 a0_1 true _ A4.out).mono ?_);rintro e w' ⟨rfl,⟨nd,rfl⟩⟩;refine⟨_,rfl,?_⟩))
    go_ret
    exact ez
  ·replace c5:=Bool.eq_false_iff.mpr c5;subst c5;rw[if_neg (show ¬ (false=true) by decide)]at H;obtain rfl:=Option.some.inj H;go_enter Tryz.func15,Tryz.ntmps15
   go_wp2_with (first|((with_reducible refine ga 1 rfl ?_);refine be 1 24 #[.int .i64 a0_0,.int .i64 a0_1] ?_;intro gb440 hg w15 hbox hb;have BK440:=m0 hbox;have GE440:=gw w hg;replace HB:=sb HB hb;clear hb hbox hg;obtain⟨_,_,_,_⟩:=b2 BK440)|((with_reducible refine gc 54 rfl ?_);refine gl (some 4) Tryz.func54 #[.agg #[.int .i64 a0_0,.int .i64 a0_1]] ?_;(with_reducible refine(Bs_IsLowest.calls k a0_0 a0_1 true _ A2.out).mono ?_);rintro e w17 ⟨rfl,hb⟩;refine⟨_,rfl,?_⟩;replace BK440:=bb BK440 hb;replace HB:=sb HB hb;(try clear hb);obtain⟨_,_,_,_⟩:=b2 BK440)|((with_reducible refine gc 11 rfl ?_);refine gl (some 10) Tryz.func11 #[.int .i64 a0_0,.int .i64 0,.int .i64 a0_1] ?_;(with_reducible refine(Bs_Within.calls a0_0 0 a0_1 false _ A4.out).mono ?_);rintro e w' ⟨rfl,⟨nd,rfl⟩⟩;refine⟨_,rfl,?_⟩))
   go_ret
   exact ez
 ·replace c3:=Bool.eq_false_iff.mpr c3;subst c3;rw[if_neg (show ¬ (false=true) by decide)]at H;obtain rfl:=Option.some.inj H;go_enter Tryz.func15,Tryz.ntmps15
  go_wp2_with (first|((with_reducible refine ga 1 rfl ?_);refine be 1 24 #[.int .i64 a0_0,.int .i64 a0_1] ?_;intro gb440 hg w19 hbox hb;have BK440:=m0 hbox;have GE440:=gw w hg;replace HB:=sb HB hb;clear hb hbox hg;obtain⟨_,_,_,_⟩:=b2 BK440)|((with_reducible refine gc 54 rfl ?_);refine gl (some 4) Tryz.func54 #[.agg #[.int .i64 a0_0,.int .i64 a0_1]] ?_;(with_reducible refine(Bs_IsLowest.calls k a0_0 a0_1 false _ A2.out).mono ?_);rintro e w21 ⟨rfl,hb⟩;refine⟨_,rfl,?_⟩;replace BK440:=bb BK440 hb;replace HB:=sb HB hb;(try clear hb)))
  go_ret
  exact ez
end
section
def L_UndoneIn.l0:Nat→List (S24)→List (S74)→List (S24)→Int→Int→Option ((List (S74))×Int)
  |0,_,_,_,_,_=>none
  |k+1,x8,x10,x56,x57,x58=>if x58<x57 then(if 0≤x58 then(if x58<(x56.length:Int)then(if x58<(x8.length:Int)then(if x10.length<4398046511104 then(L_UndoneIn.l0 k x8 (x10++ [(⟨(⟨(rd_T24 x56 x58).f0,(rd_T24 x56 x58).f1⟩:S24),(⟨(rd_T24 x8 x58).f0,(rd_T24 x8 x58).f1⟩:S24)⟩:S74)]) x56 x57 (wrap64 (x58+1)))else(none))else(none))else(none))else(none))else(some (x10,0))
def L_UndoneIn.f (k:Nat) (l0:List Int) (a1_0:Int) (a1_1:Int):Option ((List (S74))×Int):=(L_open.f k l0).bind fun bt639=>((L_constantErr.f a1_0).bind fun t643=>((L_constantErr.f a1_1).bind fun t644=>((L_unless.f (decide (a1_0≤a1_1)) 9).bind fun t645=>((L_first.f k (([bt639.2,t643,t644,t645]:List Int))).bind fun t649=>(if t649=0 then((L_profile_shares.f k bt639.1 a1_0).bind fun bt650=>(if bt650.2=0 then((L_profile_shares.f k bt639.1 a1_1).bind fun bt654=>(if bt654.2=0 then(L_UndoneIn.l0 k bt650.1 ([]:List (S74)) bt654.1 (bt654.1.length:Int) 0)else(some (([]:List (S74)),bt654.2))))else(some (([]:List (S74)),bt650.2))))else(some (([]:List (S74)),t649)))))))
theorem L_UndoneIn.mono_l:∀ k,(∀ y0 y1 y2 y3 y4,LeO (L_UndoneIn.l0 k y0 y1 y2 y3 y4) (L_UndoneIn.l0 (k+1) y0 y1 y2 y3 y4))
  |0=>fun _ _ _ _ _ r h=>by simp[L_UndoneIn.l0]at h
  | k + 1=>by
    have ih0:=L_UndoneIn.mono_l k
    · intro y0 y1 y2 y3 y4;unfold L_UndoneIn.l0
      repeat' with_reducible first
        |exact ih0 ..
        |exact L_first.mono ..
        |exact L_open.mono ..
        |exact L_profile_shares.mono ..
        |exact LeO.refl ..
        |exact LeO.none ..
        |refine LeO.ite ?_ ?_
        |refine LeO.bind ?_ (fun _=>?_)
theorem L_UndoneIn.mono:∀ a0 a1 a2 k,LeO (L_UndoneIn.f k a0 a1 a2) (L_UndoneIn.f (k+1) a0 a1 a2):=by
  intro a0 a1 a2 k;have ih0:=L_UndoneIn.mono_l k;unfold L_UndoneIn.f
  repeat' with_reducible first
    |exact ih0 ..
    |exact L_first.mono ..
    |exact L_open.mono ..
    |exact L_profile_shares.mono ..
    |exact LeO.refl ..
    |exact LeO.none ..
    |refine LeO.ite ?_ ?_
    |refine LeO.bind ?_ (fun _=>?_)
def L_UndoneIn.T2:Bool×List (List Nat×List Nat):=(true,[([],[]),([],[]),([1],[1]),([2],[2]),([],[]),([4],[4]),([5,3],[5]),([],[]),([7],[7]),([],[]),([9],[9]),([8,10],[8,10]),([11,6],[11]),([0,3,6,12],[0,3,6,12]),([13,12],[13]),([14,14,0,1,2,3,4,5,6,7,8,9,10,11,12,13,14],[0,14])])
def L_UndoneIn.B2:List Nat:=[0,0,2,6,0,16,62,0,128,0,512,1920,4094,8191,16383,32767]
theorem L_UndoneIn.tab2:rtab .any (opsOf Tryz.f25 2)=L_UndoneIn.T2:=by kernel_rfl
theorem L_UndoneIn.bits2:waitsOk L_UndoneIn.T2.2 L_UndoneIn.B2=true:=by kernel_rfl
def L_UndoneIn.T15:Bool×List (List Nat×List Nat):=(true,[([],[]),([],[]),([],[]),([],[]),([2,3],[2,3]),([4],[4]),([1,5],[1,5]),([6],[6]),([0,7],[0,7]),([8,8,0,1,2,3,4,5,6,7,8],[0,8])])
def L_UndoneIn.B15:List Nat:=[0,0,0,0,12,28,62,126,255,511]
theorem L_UndoneIn.tab15:rtab .any (opsOf Tryz.f25 15)=L_UndoneIn.T15:=by kernel_rfl
theorem L_UndoneIn.bits15:waitsOk L_UndoneIn.T15.2 L_UndoneIn.B15=true:=by kernel_rfl
theorem L_UndoneIn.calls (k:Nat) (A0:Option Addr) (c0:Nat) (l0:List Int) (a1_0:Int) (a1_1:Int) (r1:List (S74)) (r2:Int) (w:World) (hr0:Kd.C (Kd.int .i64) w A0 l0.length l0) (hc0:l0.length≤c0) (H:L_UndoneIn.f k l0 a1_0 a1_1=some (r1,r2)):
    Calls Tryz.prog 25 #[.slice A0 l0.length c0,.agg #[.int .i64 a1_0,.int .i64 a1_1]] w fun e w'=>∃ v0_:Value,e= .returned (.tuple #[v0_,.int .i64 r2])∧Kd.R k74 74 w' w.heap.size (fun _=>True) v0_ r1∧Below w.heap.size w w':=by
  have hu40:=Tryz.underlying40;have hu24:=Tryz.underlying24;have hu74:=Tryz.underlying74;have HR0:=m0 hr0;have HC0:=m0 hc0;clear hr0 hc0;have HB:=m0 (Below.refl w.heap.size w);unfold L_UndoneIn.f at H;replace H:=oa H;obtain⟨⟨t639,t642⟩,A3,H⟩:=H;(try dsimp only at H);replace H:=oa H;obtain⟨t643,A4,H⟩:=H;(try dsimp only at H);replace H:=oa H;obtain⟨t644,A5,H⟩:=H;(try dsimp only at H);replace H:=oa H;obtain⟨t645,A6,H⟩:=H;(try dsimp only at H);obtain⟨y646,hy646⟩:∃ y_:List Int,y_=(([t642,t643,t644,t645]:List Int)):=⟨_,rfl⟩;replace H:((L_first.f k y646).bind fun t649=>(if t649=0 then((L_profile_shares.f k t639 a1_0).bind fun bt650=>(if bt650.2=0 then((L_profile_shares.f k t639 a1_1).bind fun bt654=>(if bt654.2=0 then(L_UndoneIn.l0 k bt650.1 ([]:List (S74)) bt654.1 (bt654.1.length:Int) 0)else(some (([]:List (S74)),bt654.2))))else(some (([]:List (S74)),bt650.2))))else(some (([]:List (S74)),t649))))=some (r1,r2):=by first|(rw[hy646];with_reducible exact H)|(have H2_:=(Option.bind_some _ _).symm.trans H;rw[hy646];with_reducible exact H2_)|(have H2_:=(Option.bind_some _ _).symm.trans H;with_reducible exact H2_)|with_reducible exact H|(rw[hy646];exact H)|exact H
  have Ny646:=m0 hy646;clear hy646;replace H:=oa H;obtain⟨t649,A7,H⟩:=H;(try dsimp only at H)
  by_cases c8:t649=0
  · rw [if_pos c8] at H;have c8b0:=beq_iff_eq.mpr c8;have c8b1:=bne_eq_false_iff_eq.mpr c8;clear c8;replace H:=oa H;obtain⟨⟨t650,t651⟩,A9,H⟩:=H;(try dsimp only at H)
    by_cases c10:t651=0
    · rw [if_pos c10] at H;have c10b0:=beq_iff_eq.mpr c10;have c10b1:=bne_eq_false_iff_eq.mpr c10;clear c10;replace H:=oa H;obtain⟨⟨t654,t655⟩,A11,H⟩:=H;(try dsimp only at H)
      by_cases c12:t655=0
      · rw [if_pos c12] at H;have c12b0:=beq_iff_eq.mpr c12;have c12b1:=bne_eq_false_iff_eq.mpr c12;clear c12;have H':=m0 H;clear H;go_enter Tryz.func25,Tryz.ntmps25
        try go_wp2_with (first|((with_reducible refine ga 3 rfl ?_);refine be 3 40 #[.int .i64 a1_0,.int .i64 a1_1] ?_;intro gb638 hg w13 hbox hb;have BK638:=m0 hbox;have GW638:=gw w hg;have GE638:=gw w hg;replace HB:=sb HB hb;clear hb hbox hg)|((with_reducible refine gc 45 rfl ?_);refine gl (some 15) Tryz.func45 #[.slice A0 l0.length c0] ?_;(with_reducible refine(L_open.calls k (fun k_=>k_<w.heap.size) _ _ l0 t639 t642 _ ?side1 A3.out).mono ?_);(case side1=>exact Kd.V_mk HC0.out (Kd.F_below (Kd.C_F (Kd.heap_int .i64) HR0.out) bz));rintro e w14 ⟨v640,rfl,ho0,hb⟩;refine⟨_,rfl,?_⟩;have HO641:=hv w (fun k_=>k_≠gb638) ho0 (fun k_ hk_=>Or.elim hk_ (fun hs_=>fun e_=>Nat.not_le.2 hs_ (by rw[e_];exact GW638.out)) (fb BK638 ·));replace BK638:=bb BK638 hb;replace HB:=sb HB hb;(try clear hb);(try clear ho0)))
        replace HO641:=m0 (Kd.V_drew HO641.out);replace BK638:=bd BK638;replace HB:=sd HB;refine start_ (n:=16) (S:=fun w'=>w'.cell? ⟨gb638,0,none⟩=some (.int .i64 a1_0)∧w'.cell? ⟨gb638,1,none⟩=some (.int .i64 a1_1)) (ds:=[]) _ (by kernel_rfl) rfl rfl cz (fun hH=>?_);refine with_tabW L_UndoneIn.tab2 L_UndoneIn.bits2 (fun HT_ HW_=>?_);generalize w14.drew=w15 at HO641 BK638 HB hH ⊢;refine pZ 0 (some 18) (bs 16 1) HT_ ?_;refine pZ 1 (some 19) (bs 16 3) HT_ ?_;refine pZ 4 (some 22) (bs 16 19) HT_ ?_;refine pZ 7 (some 25) (bs 16 147) HT_ ?_;refine pZ 9 (some 27) (bs 16 659) HT_ ?_;refine takeZ 2 (some 20) (bs 16 663) (tw HT_ HW_) hH ?_;refine takeZ 5 (some 23) (bs 16 695) (tw HT_ HW_) hH ?_;refine takeZ 8 (some 26) (bs 16 951) (tw HT_ HW_) hH ?_;refine takeZ 10 (some 28) (bs 16 1975) (tw HT_ HW_) hH ?_;refine pZ 11 (some 29) (bs 16 4023) HT_ ?_;refine oneZ 3 (some 21) (bs 16 4031) (o1 HT_) fun K hK=>?_;refine gz Tryz.func55 #[.int .i64 a1_0] ?_
        with_reducible refine(L_constantErr.calls a1_0 t643 _ A4.out).mono ?_
        rintro e w' ⟨rfl,⟨nd,rfl⟩⟩;refine⟨_,rfl,?_⟩;refine hK.out _ _ cz (fun hH=>?_);clear hK K;refine nz 21 ?_;refine oneZ 6 (some 24) (bs 16 4095) (o1 HT_) fun K hK=>?_;refine gz Tryz.func55 #[.int .i64 a1_1] ?_
        with_reducible refine(L_constantErr.calls a1_1 t644 _ A5.out).mono ?_
        rintro e w' ⟨rfl,⟨nd,rfl⟩⟩;refine⟨_,rfl,?_⟩;refine hK.out _ _ cz (fun hH=>?_);clear hK K;refine nz 24 ?_;refine oneZ 12 (some 30) (bs 16 8191) (o1 HT_) fun K hK=>?_;refine gz Tryz.func49 #[.bool (decide (a1_0≤a1_1)),.int .i64 9] ?_
        with_reducible refine(L_unless.calls (decide (a1_0≤a1_1)) 9 t645 _ A6.out).mono ?_
        rintro e w' ⟨rfl,⟨nd,rfl⟩⟩;refine⟨_,rfl,?_⟩;refine hK.out _ _ cz (fun hH=>?_);clear hK K;refine nz 30 ?_;refine oneZ 13 (some 31) (bs 16 16383) (o1 HT_) fun K hK=>?_;refine Kd.R_lit_step (Kd.int .i64) _ 35 ?hg (N:=31) ?hd (xs:=([t642,t643,t644,t645]:List Int)) (inner:=[.int .i64 t642,.int .i64 t643,.int .i64 t644,.int .i64 t645]) (ok:=fun _=>True) (okp:=fun _=>True) ?hr ?hp (fun _ hk=>hk) trivial (Below.refl _ _) (Nat.le_refl _) (by simp) ?_;(case hd=>rfl);(case hg=>rfl);(case hr=>first|(go_simp;done)|(go_simp;rfl));(case hp=>exact(Reps.one (ki t642) (Reps.one (ki t643) (Reps.one (ki t644) (Reps.one (ki t645) (Reps.none _ _))))))
        intro v647 w16 ho17 hb hg_ hnew_;clear hg_ hnew_
        (first|rw[← Ny646.out]at ho17|(simp only[Int.reduceToNat]at ho17;rw[← Ny646.out]at ho17))
        replace HO641:=m0 (Kd.V_elder' (by(with_reducible repeat(first|apply Kd.V_alloc|apply Kd.V_drewN|apply Kd.V_drew));exact HO641.out) (Kd.R_base ho17) hb);have HO648:=m0 (Kd.R_lower ho17 (below_size bz));replace BK638:=bb BK638 hb;replace HB:=sb HB hb;clear hb ho17;obtain⟨Ao18,co18,eo18⟩:=Kd.R_slice HO648.out;subst eo18;refine hK.out _ _ cz (fun hH=>?_);clear hK K;refine nz 31 ?_;refine oneZ 14 (some 32) (bs 16 32767) (o1 HT_) fun K hK=>?_;refine gz Tryz.func48 #[.slice Ao18 y646.length co18] ?_
        with_reducible refine(L_first.calls k _ _ y646 t649 _ ?side1 ?side2 A7.out).mono ?_
        (case side1=>exact bc (Kd.R_reads' HO648.out).2.2)
        (case side2=>exact(Kd.R_reads' HO648.out).2.1)
        rintro e w' ⟨rfl,⟨nd,rfl⟩⟩;refine⟨_,rfl,?_⟩;refine hK.out _ _ cz (fun hH=>?_);clear hK K;refine nz 32 ?_;refine pZ 15 (some 7) (bs 16 65535) HT_ ?_;refine done_ (done_of HT_.out (by kernel_rfl)) ?_;obtain⟨hcz19_0,hcz19_1,hfz19_0,hfz19_1⟩:=b2 BK638;obtain⟨Ao20,co20,eo20⟩:=Kd.V_slice HO641.out;subst eo20
        try go_wp2_with (first|((with_reducible refine gc 60 rfl ?_);refine gl (some 40) Tryz.func60 #[.slice Ao20 t639.length co20,.int .i64 a1_0] ?_;(with_reducible refine(L_profile_shares.calls k _ _ t639 a1_0 t650 t651 _ ?side1 ?side2 A9.out).mono ?_);(case side1=>exact bc (Kd.V_reads' HO641.out).2.2);(case side2=>exact(Kd.V_reads' HO641.out).2.1);rintro e w21 ⟨v652,rfl,ho0,hb⟩;refine⟨_,rfl,?_⟩;replace HO641:=m0 (Kd.V_elder' (by(with_reducible repeat(first|apply Kd.V_alloc|apply Kd.V_drewN|apply Kd.V_drew));exact HO641.out) (Kd.R_base ho0) hb);replace HO648:=rb HO648 hb;have HO653:=m0 (Kd.R_lower ho0 (below_size bz));replace BK638:=bb BK638 hb;replace HB:=sb HB hb;(try clear hb);(try clear ho0);obtain⟨hcz22_0,hcz22_1,hfz22_0,hfz22_1⟩:=b2 BK638)|((with_reducible refine gc 60 rfl ?_);refine gl (some 50) Tryz.func60 #[.slice Ao20 t639.length co20,.int .i64 a1_1] ?_;(with_reducible refine(L_profile_shares.calls k _ _ t639 a1_1 t654 t655 _ ?side1 ?side2 A11.out).mono ?_);(case side1=>exact bc (Kd.V_reads' HO641.out).2.2);(case side2=>exact(Kd.V_reads' HO641.out).2.1);rintro e w23 ⟨v656,rfl,ho0,hb⟩;refine⟨_,rfl,?_⟩;replace HO641:=m0 (Kd.V_elder' (by(with_reducible repeat(first|apply Kd.V_alloc|apply Kd.V_drewN|apply Kd.V_drew));exact HO641.out) (Kd.R_base ho0) hb);replace HO648:=rb HO648 hb;have HO657:=m0 (Kd.R_lower (Kd.R_new' ho0 (Kd.R_lt (br HO653.out))) (below_size bz));replace HO653:=m0 (Kd.R_elder' (br HO653.out) (Kd.R_base ho0) hb);replace BK638:=bb BK638 hb;replace HB:=sb HB hb;(try clear hb);(try clear ho0);obtain⟨Ao24,co24,eo24⟩:=Kd.R_slice HO657.out;subst eo24))
        go_loopg [10,58] k (fun kq v10 v58 w'=>∃ (x10_1:List (S74)) (x58_1:Int),v58= .int .i64 x58_1∧Aside0 (L_UndoneIn.l0 kq t650 x10_1 t654 (t654.length:Int) x58_1=some (r1,r2))∧Aside0 (kq≤k)∧Aside0 (Kd.R k24 24 w' w.heap.size (fun k_=>some k_≠((.slice Ao24 t654.length co24):Value).ownBlock) v652 t650)∧Aside0 (Kd.R k74 74 w' w.heap.size (fun _=>True) v10 x10_1)∧Aside0 (Kd.R k24 24 w' w.heap.size (fun k_=>some k_≠(v652:Value).ownBlock) (.slice Ao24 t654.length co24) t654)∧Aside0 (w'.heap[gb638]?=some (.cells #[.int .i64 a1_0,.int .i64 a1_1] 40 (0,0)))∧Aside0 (Below w.heap.size w w'))
        case atStart=>exact⟨(([]:List (S74))),(0),rz,H',⟨Nat.le_refl _⟩,⟨by (with_reducible repeat(first|apply Kd.R_alloc|apply Kd.R_drewN|apply Kd.R_drew));exact Kd.R_mono HO653.out (fun _ hk=>hk.2)⟩,⟨by first|exact Kd.R_nil _ _ _ _ _|exact Kd.N_nil _ _ _ _ _|exact Kd.V_nil _ _ _ _ _|exact Kd.Q_nil _ _ _ _ _|exact Kd.S_nil _ _ _ _ _⟩,⟨by (with_reducible repeat(first|apply Kd.R_alloc|apply Kd.R_drewN|apply Kd.R_drew));exact Kd.R_mono HO657.out (fun _ hk=>hk.2)⟩,⟨bk BK638.out⟩,⟨bz⟩⟩
        case round =>
          clear H'
          try clear hcz19_0
          try clear hcz19_1
          try clear hcz22_0
          try clear hcz22_1
          try clear hfz19_0
          try clear hfz19_1
          try clear hfz22_0
          try clear hfz22_1
          obtain⟨x10_1,x58_1,rfl,HA,HK1,HO_8,HO_10,HO_56,BK638,HB⟩:=hrel
          cases gk with
          |zero=>exact absurd HA.out (by simp[L_UndoneIn.l0])
          | succ k1 =>
            have H:=HA.out;clear HA;simp only[L_UndoneIn.l0]at H
            by_cases c25:x58_1<(t654.length:Int)
            · rw [if_pos c25]at H;have c25b0:=decide_eq_true c25;clear c25
              by_cases c26:0≤x58_1
              · rw [if_pos c26]at H;have c26b0:=decide_eq_true c26;clear c26
                by_cases c27:x58_1<(t654.length:Int)
                · rw [if_pos c27]at H;have c27b0:=decide_eq_true c27;clear c27
                  by_cases c28:x58_1<(t650.length:Int)
                  · rw [if_pos c28]at H;have c28b0:=decide_eq_true c28;clear c28
                    by_cases c29:x10_1.length<4398046511104
                    · rw[if_pos c29]at H;have LMc29:=m0 c29;clear c29;obtain⟨y661,hy661⟩:∃ y_:List (S74),y_=(x10_1++ [(⟨(⟨(rd_T24 t654 x58_1).f0,(rd_T24 t654 x58_1).f1⟩:S24),(⟨(rd_T24 t650 x58_1).f0,(rd_T24 t650 x58_1).f1⟩:S24)⟩:S74)]):=⟨_,rfl⟩;replace H:(L_UndoneIn.l0 k1 t650 y661 t654 (t654.length:Int) (wrap64 (x58_1+1)))=some (r1,r2):=by first|(rw[hy661];with_reducible exact H)|(have H2_:=(Option.bind_some _ _).symm.trans H;rw[hy661];with_reducible exact H2_)|(have H2_:=(Option.bind_some _ _).symm.trans H;with_reducible exact H2_)|with_reducible exact H|(rw[hy661];exact H)|exact H
                      have Ny661:=m0 hy661;clear hy661;have H':=m0 H;clear H;have p658:0≤(x58_1:Int):=od;have q658:x58_1<(t654.length:Int):=od;obtain⟨ad658,e658,hx658_0,hx658_1⟩:=at_T24 (Kd.R_reads' HO_56.out).2.2 x58_1 p658 q658
                      cases e658
                      replace p658:=eq_true p658;replace q658:=eq_true q658
                      try go_wp2_with (first|((with_reducible refine ga 12 rfl ?_);refine be 12 24 #[.int .i64 0,.int .i64 0] ?_;intro gb659 hg w30 hbox hb;replace HO_8:=m0 (Kd.R_below (Kd.R_elderB (br HO_8.out) gb659 (Nat.le_of_eq hg.symm)) hb);replace HO_10:=rb HO_10 hb;replace HO_56:=m0 (Kd.R_below (Kd.R_elderB (br HO_56.out) gb659 (Nat.le_of_eq hg.symm)) hb);have BK659:=m0 hbox;have GE659:=gw w hg;replace HB:=sb HB hb;have NB638_659:=nl BK638 hg;have NB659_638:=ng (nl BK638 hg);replace BK638:=bb BK638 hb;clear hb hbox hg;have hnb31:=NB659_638.out;have hnc31:=NB638_659.out;obtain⟨_,_,_,_⟩:=b2 BK659))
                      replace HO_8:Aside0 (Kd.R k24 24 ((w30.setCell ⟨gb659,0,none⟩ (.int .i64 ((rd_T24 t654 x58_1).f0))).setCell ⟨gb659,1,none⟩ (.int .i64 ((rd_T24 t654 x58_1).f1))) w.heap.size (fun k_=>some k_≠(.slice (some ad658) t654.length co24:Value).ownBlock∧k_≠gb659) v652 t650):=⟨by (with_reducible repeat(first|apply Kd.R_alloc|apply Kd.R_drewN|apply Kd.R_drew));exact Kd.R_mono (rf (rf (rn gb659 HO_8.out (·.2)) (·.2)) (·.2)) (fun _ hk=>⟨hk.1.1,hk.1.2⟩)⟩;replace HO_10:Aside0 (Kd.R k74 74 ((w30.setCell ⟨gb659,0,none⟩ (.int .i64 ((rd_T24 t654 x58_1).f0))).setCell ⟨gb659,1,none⟩ (.int .i64 ((rd_T24 t654 x58_1).f1))) w.heap.size (fun _=>True) u10 x10_1):=⟨by (with_reducible repeat(first|apply Kd.R_alloc|apply Kd.R_drewN|apply Kd.R_drew));exact Kd.R_mono (rf (rf (Kd.R_types HO_10.out BK659.out (by decide)) (·.2)) (·.2)) (fun _ hk=>trivial)⟩;replace HO_56:Aside0 (Kd.R k24 24 ((w30.setCell ⟨gb659,0,none⟩ (.int .i64 ((rd_T24 t654 x58_1).f0))).setCell ⟨gb659,1,none⟩ (.int .i64 ((rd_T24 t654 x58_1).f1))) w.heap.size (fun k_=>some k_≠(v652:Value).ownBlock∧k_≠gb659) (.slice (some ad658) t654.length co24) t654):=⟨by (with_reducible repeat(first|apply Kd.R_alloc|apply Kd.R_drewN|apply Kd.R_drew));exact Kd.R_mono (rf (rf (rn gb659 HO_56.out (·.2)) (·.2)) (·.2)) (fun _ hk=>⟨hk.1.1,hk.1.2⟩)⟩;replace BK638:Aside0 (((w30.setCell ⟨gb659,0,none⟩ (.int .i64 ((rd_T24 t654 x58_1).f0))).setCell ⟨gb659,1,none⟩ (.int .i64 ((rd_T24 t654 x58_1).f1))).heap[gb638]?=some (.cells #[.int .i64 a1_0,.int .i64 a1_1] 40 (0,0))):=⟨bq BK638.out⟩;replace BK659:Aside0 (((w30.setCell ⟨gb659,0,none⟩ (.int .i64 ((rd_T24 t654 x58_1).f0))).setCell ⟨gb659,1,none⟩ (.int .i64 ((rd_T24 t654 x58_1).f1))).heap[gb659]?=some (.cells #[.int .i64 ((rd_T24 t654 x58_1).f0),.int .i64 ((rd_T24 t654 x58_1).f1)] 24 (0,0))):=⟨bq BK659.out⟩;replace HB:Aside0 (Below w.heap.size w ((w30.setCell ⟨gb659,0,none⟩ (.int .i64 ((rd_T24 t654 x58_1).f0))).setCell ⟨gb659,1,none⟩ (.int .i64 ((rd_T24 t654 x58_1).f1)))):=⟨bz⟩;generalize ((w30.setCell ⟨gb659,0,none⟩ (.int .i64 ((rd_T24 t654 x58_1).f0))).setCell ⟨gb659,1,none⟩ (.int .i64 ((rd_T24 t654 x58_1).f1)))=w33 at HO_8 HO_10 HO_56 BK638 BK659 HB ⊢;replace HO_8:=m0 (Kd.R_drew HO_8.out);replace HO_10:=m0 (Kd.R_drew HO_10.out);replace HO_56:=m0 (Kd.R_drew HO_56.out);replace BK638:=bd BK638;replace BK659:=bd BK659;replace HB:=sd HB;obtain⟨Ao35,co35,eo35⟩:=Kd.R_slice HO_8.out;subst eo35;have p660:0≤(x58_1:Int):=od;have q660:x58_1<(t650.length:Int):=od;obtain⟨ad660,e660,hx660_0,hx660_1⟩:=at_T24 (Kd.R_reads' HO_8.out).2.2 x58_1 p660 q660
                      cases e660
                      replace p660:=eq_true p660;replace q660:=eq_true q660;refine start_ (n:=10) (S:=fun w'=>w'.cell? ⟨gb659,0,none⟩=some (.int .i64 ((rd_T24 t654 x58_1).f0))∧w'.cell? ⟨gb659,1,none⟩=some (.int .i64 ((rd_T24 t654 x58_1).f1))∧w'.cell? (ad660.add ((x58_1).toNat*2))=some (.int .i64 ((rd_T24 t650 x58_1).f0))∧w'.cell? ⟨(ad660.add ((x58_1).toNat*2)).block,(ad660.add ((x58_1).toNat*2)).off+1,none⟩=some (.int .i64 ((rd_T24 t650 x58_1).f1))) (ds:=[7,8]) _ (by kernel_rfl) rfl rfl ⟨(blk_cell BK659.out 0).trans rfl,(blk_cell BK659.out 1).trans rfl,hx660_0,hx660_1⟩ (fun hH=>?_);refine with_tabW L_UndoneIn.tab15 L_UndoneIn.bits15 (fun HT_ HW_=>?_);generalize w33.drew=w34 at HO_8 HO_10 HO_56 BK638 BK659 HB hx660_0 hx660_1 hH ⊢;refine pZ 0 (some 63) #[true,false,false,false,false,false,false,false,false,false] HT_ ?_;refine pZ 2 (some 65) #[true,false,true,false,false,false,false,false,false,false] HT_ ?_;refine pZ 3 (some 66) #[true,false,true,true,false,false,false,false,false,false] HT_ ?_;refine pZ 4 (some 67) #[true,false,true,true,true,false,false,false,false,false] HT_ ?_;refine takeZ 1 (some 64) #[true,true,true,true,true,false,false,false,false,false] (tw HT_ HW_) hH ?_;refine takeZ 5 (some 68) #[true,true,true,true,true,true,false,false,false,false] (tw HT_ HW_) hH ?_;refine pZ 6 (some 69) #[true,true,true,true,true,true,true,false,false,false] HT_ ?_;refine last_ (i:=7) (N:=some 70) #[true,true,true,true,true,true,true,true,false,false] rfl rfl (o1 HT_) (by decide) (fun K hK=>?_);refine value_ (w1:=?_) (v:=?_) (by rfl) rfl ?_ ?_;rotate_left 2
                      · go_simp
                        constructor
                        · rfl
                        · rfl
                      refine hK.out _ _ ?_;clear hK K;refine nz 70 ?_;refine last_ (i:=8) (N:=some 71) #[true,true,true,true,true,true,true,true,true,false] rfl rfl (o1 HT_) (by decide) (fun K hK=>?_);refine Kd.R_append_step k74 (w0:=w) w.heap.size (by rfl) (.tmp 63) (.tmp 70) 58 74 (.agg #[(.int .i64 0),(.int .i64 0),(.int .i64 0),(.int .i64 0)]) 32 rfl Tryz.underlying58 info74 rfl (by decide) (by omega) u10 x10_1 (⟨(⟨(rd_T24 t654 x58_1).f0,(rd_T24 t654 x58_1).f1⟩:S24),(⟨(rd_T24 t650 x58_1).f0,(rd_T24 t650 x58_1).f1⟩:S24)⟩:S74) [.int .i64 ((rd_T24 t654 x58_1).f0),.int .i64 ((rd_T24 t654 x58_1).f1),.int .i64 ((rd_T24 t650 x58_1).f0),.int .i64 ((rd_T24 t650 x58_1).f1)] (fun _=>True) (fun _=>False) rfl rfl ?aP (fun _ hk=>hk.elim) ?aF ?aO ?aB ?aS ?aL ?_
                      (case aP=>exact k74_mkM _ _ _ (⟨(⟨(rd_T24 t654 x58_1).f0,(rd_T24 t654 x58_1).f1⟩:S24),(⟨(rd_T24 t650 x58_1).f0,(rd_T24 t650 x58_1).f1⟩:S24)⟩:S74))
                      (case aB=>exact bz)
                      (case aF=>exact(fun _ _=>trivial))
                      (case aO=>exact(br HO_10.out))
                      (case aS=>exact(below_size bz))
                      (case aL=>have:=LMc29.out;omega)
                      intro v662 w36 ho hb hg hat;rw[← Ny661.out]at ho;have n0_:=m0 (Kd.R_over' (br HO_8.out) (Kd.R_typed (br HO_10.out)) (by decide) hg);have n1_:=m0 (Kd.R_over' (br HO_56.out) (Kd.R_typed (br HO_10.out)) (by decide) hg);have n2_:=m0 (blk_grown (g:=gb638) (o:= .cells #[.int .i64 a1_0,.int .i64 a1_1] 40 (0,0)) (bk BK638.out) hg (Kd.R_ne HO_10.out BK638.out (by decide)));have n3_:=m0 (blk_grown (g:=gb659) (o:= .cells #[.int .i64 ((rd_T24 t654 x58_1).f0),.int .i64 ((rd_T24 t654 x58_1).f1)] 24 (0,0)) (bk BK659.out) hg (Kd.R_ne HO_10.out BK659.out (by decide)));have n4_:=m0 (hb);have n5_:=m0 (ho);clear HO_8;clear HO_56;clear BK638;clear BK659;clear HB;clear HO_10;have HO_8:=n0_;have HO_56:=n1_;have BK638:=n2_;have BK659:=n3_;have HB:=n4_;have HO663:=n5_;clear n0_ n1_ n2_ n3_ n4_ n5_;clear ho hb hg hat;refine hK.out _ _ ?_;clear hK K;refine nz 71 ?_;refine pZ 9 (some 10) #[true,true,true,true,true,true,true,true,true,true] HT_ ?_;refine done_ (done_of HT_.out (by kernel_rfl)) ?_
                      try go_wp2
                      go_roundg k1
                      case measure=>have:=HK1.out;omega
                      case rel=>exact⟨(y661),(wrap64 (x58_1+1)),rz,H',⟨by have:=HK1.out;omega⟩,⟨by (with_reducible repeat(first|apply Kd.R_alloc|apply Kd.R_drewN|apply Kd.R_drew));exact Kd.R_mono HO_8.out (fun _ hk=>hk.1)⟩,⟨br HO663.out⟩,⟨by (with_reducible repeat(first|apply Kd.R_alloc|apply Kd.R_drewN|apply Kd.R_drew));exact Kd.R_mono HO_56.out (fun _ hk=>hk.1)⟩,⟨bk BK638.out⟩,⟨bz⟩⟩
                    · rw[if_neg c29]at H;exact absurd H (by simp)
                  · rw[if_neg c28]at H;exact absurd H (by simp)
                · rw[if_neg c27]at H;exact absurd H (by simp)
              · rw[if_neg c26]at H;exact absurd H (by simp)
            · rw[if_neg c25]at H;have c25b0:=decide_eq_false c25;clear c25;simp only[Option.some.injEq,Prod.mk.injEq]at H;obtain⟨rfl,rfl⟩:=H
              go_wp2
              go_ret2
              exact⟨_,by first|rfl|(simp[errW_none,errW_some]<;>rfl)|(simp[*,errW_none,errW_some]<;>rfl),by(with_reducible repeat(first|apply Kd.R_alloc|apply Kd.R_drewN|apply Kd.R_drew));exact HO_10.out,by repeat(first|(with_reducible first|exact HB.out|apply below_alloc|apply pw_below_drewN|apply below_drew1|refine below_set ?_ GE638.out)|exact HB.out)⟩
      · rw[if_neg c12]at H;have c12b0:=beq_eq_false_iff_ne.mpr c12;have c12b1:=bne_iff_ne.mpr c12;simp only[Option.some.injEq,Prod.mk.injEq]at H;obtain⟨rfl,rfl⟩:=H;go_enter Tryz.func25,Tryz.ntmps25
        try go_wp2_with (first|((with_reducible refine ga 3 rfl ?_);refine be 3 40 #[.int .i64 a1_0,.int .i64 a1_1] ?_;intro gb638 hg w37 hbox hb;have BK638:=m0 hbox;have GW638:=gw w hg;have GE638:=gw w hg;replace HB:=sb HB hb;clear hb hbox hg)|((with_reducible refine gc 45 rfl ?_);refine gl (some 15) Tryz.func45 #[.slice A0 l0.length c0] ?_;(with_reducible refine(L_open.calls k (fun k_=>k_<w.heap.size) _ _ l0 t639 t642 _ ?side1 A3.out).mono ?_);(case side1=>exact Kd.V_mk HC0.out (Kd.F_below (Kd.C_F (Kd.heap_int .i64) HR0.out) bz));rintro e w38 ⟨v640,rfl,ho0,hb⟩;refine⟨_,rfl,?_⟩;have HO641:=hv w (fun k_=>k_≠gb638) ho0 (fun k_ hk_=>Or.elim hk_ (fun hs_=>fun e_=>Nat.not_le.2 hs_ (by rw[e_];exact GW638.out)) (fb BK638 ·));replace BK638:=bb BK638 hb;replace HB:=sb HB hb;(try clear hb);(try clear ho0)))
        replace HO641:=m0 (Kd.V_drew HO641.out);replace BK638:=bd BK638;replace HB:=sd HB;refine start_ (n:=16) (S:=fun w'=>w'.cell? ⟨gb638,0,none⟩=some (.int .i64 a1_0)∧w'.cell? ⟨gb638,1,none⟩=some (.int .i64 a1_1)) (ds:=[]) _ (by kernel_rfl) rfl rfl cz (fun hH=>?_);refine with_tabW L_UndoneIn.tab2 L_UndoneIn.bits2 (fun HT_ HW_=>?_);generalize w38.drew=w39 at HO641 BK638 HB hH ⊢;refine pZ 0 (some 18) (bs 16 1) HT_ ?_;refine pZ 1 (some 19) (bs 16 3) HT_ ?_;refine pZ 4 (some 22) (bs 16 19) HT_ ?_;refine pZ 7 (some 25) (bs 16 147) HT_ ?_;refine pZ 9 (some 27) (bs 16 659) HT_ ?_;refine takeZ 2 (some 20) (bs 16 663) (tw HT_ HW_) hH ?_;refine takeZ 5 (some 23) (bs 16 695) (tw HT_ HW_) hH ?_;refine takeZ 8 (some 26) (bs 16 951) (tw HT_ HW_) hH ?_;refine takeZ 10 (some 28) (bs 16 1975) (tw HT_ HW_) hH ?_;refine pZ 11 (some 29) (bs 16 4023) HT_ ?_;refine oneZ 3 (some 21) (bs 16 4031) (o1 HT_) fun K hK=>?_;refine gz Tryz.func55 #[.int .i64 a1_0] ?_
        with_reducible refine(L_constantErr.calls a1_0 t643 _ A4.out).mono ?_
        rintro e w' ⟨rfl,⟨nd,rfl⟩⟩;refine⟨_,rfl,?_⟩;refine hK.out _ _ cz (fun hH=>?_);clear hK K;refine nz 21 ?_;refine oneZ 6 (some 24) (bs 16 4095) (o1 HT_) fun K hK=>?_;refine gz Tryz.func55 #[.int .i64 a1_1] ?_
        with_reducible refine(L_constantErr.calls a1_1 t644 _ A5.out).mono ?_
        rintro e w' ⟨rfl,⟨nd,rfl⟩⟩;refine⟨_,rfl,?_⟩;refine hK.out _ _ cz (fun hH=>?_);clear hK K;refine nz 24 ?_;refine oneZ 12 (some 30) (bs 16 8191) (o1 HT_) fun K hK=>?_;refine gz Tryz.func49 #[.bool (decide (a1_0≤a1_1)),.int .i64 9] ?_
        with_reducible refine(L_unless.calls (decide (a1_0≤a1_1)) 9 t645 _ A6.out).mono ?_
        rintro e w' ⟨rfl,⟨nd,rfl⟩⟩;refine⟨_,rfl,?_⟩;refine hK.out _ _ cz (fun hH=>?_);clear hK K;refine nz 30 ?_;refine oneZ 13 (some 31) (bs 16 16383) (o1 HT_) fun K hK=>?_;refine Kd.R_lit_step (Kd.int .i64) _ 35 ?hg (N:=31) ?hd (xs:=([t642,t643,t644,t645]:List Int)) (inner:=[.int .i64 t642,.int .i64 t643,.int .i64 t644,.int .i64 t645]) (ok:=fun _=>True) (okp:=fun _=>True) ?hr ?hp (fun _ hk=>hk) trivial (Below.refl _ _) (Nat.le_refl _) (by simp) ?_;(case hd=>rfl);(case hg=>rfl);(case hr=>first|(go_simp;done)|(go_simp;rfl));(case hp=>exact(Reps.one (ki t642) (Reps.one (ki t643) (Reps.one (ki t644) (Reps.one (ki t645) (Reps.none _ _))))))
        intro v647 w40 ho41 hb hg_ hnew_;clear hg_ hnew_
        (first|rw[← Ny646.out]at ho41|(simp only[Int.reduceToNat]at ho41;rw[← Ny646.out]at ho41))
        replace HO641:=m0 (Kd.V_elder' (by(with_reducible repeat(first|apply Kd.V_alloc|apply Kd.V_drewN|apply Kd.V_drew));exact HO641.out) (Kd.R_base ho41) hb);have HO648:=m0 (Kd.R_lower ho41 (below_size bz));replace BK638:=bb BK638 hb;replace HB:=sb HB hb;clear hb ho41;obtain⟨Ao42,co42,eo42⟩:=Kd.R_slice HO648.out;subst eo42;refine hK.out _ _ cz (fun hH=>?_);clear hK K;refine nz 31 ?_;refine oneZ 14 (some 32) (bs 16 32767) (o1 HT_) fun K hK=>?_;refine gz Tryz.func48 #[.slice Ao42 y646.length co42] ?_
        with_reducible refine(L_first.calls k _ _ y646 t649 _ ?side1 ?side2 A7.out).mono ?_
        (case side1=>exact bc (Kd.R_reads' HO648.out).2.2)
        (case side2=>exact(Kd.R_reads' HO648.out).2.1)
        rintro e w' ⟨rfl,⟨nd,rfl⟩⟩;refine⟨_,rfl,?_⟩;refine hK.out _ _ cz (fun hH=>?_);clear hK K;refine nz 32 ?_;refine pZ 15 (some 7) (bs 16 65535) HT_ ?_;refine done_ (done_of HT_.out (by kernel_rfl)) ?_;obtain⟨_,_,_,_⟩:=b2 BK638;obtain⟨Ao44,co44,eo44⟩:=Kd.V_slice HO641.out;subst eo44
        try go_wp2_with (first|((with_reducible refine gc 60 rfl ?_);refine gl (some 40) Tryz.func60 #[.slice Ao44 t639.length co44,.int .i64 a1_0] ?_;(with_reducible refine(L_profile_shares.calls k _ _ t639 a1_0 t650 t651 _ ?side1 ?side2 A9.out).mono ?_);(case side1=>exact bc (Kd.V_reads' HO641.out).2.2);(case side2=>exact(Kd.V_reads' HO641.out).2.1);rintro e w45 ⟨v652,rfl,ho0,hb⟩;refine⟨_,rfl,?_⟩;replace HO641:=m0 (Kd.V_elder' (by(with_reducible repeat(first|apply Kd.V_alloc|apply Kd.V_drewN|apply Kd.V_drew));exact HO641.out) (Kd.R_base ho0) hb);replace HO648:=rb HO648 hb;have HO653:=m0 (Kd.R_lower ho0 (below_size bz));replace BK638:=bb BK638 hb;replace HB:=sb HB hb;(try clear hb);(try clear ho0);obtain⟨_,_,_,_⟩:=b2 BK638)|((with_reducible refine gc 60 rfl ?_);refine gl (some 50) Tryz.func60 #[.slice Ao44 t639.length co44,.int .i64 a1_1] ?_;(with_reducible refine(L_profile_shares.calls k _ _ t639 a1_1 t654 t655 _ ?side1 ?side2 A11.out).mono ?_);(case side1=>exact bc (Kd.V_reads' HO641.out).2.2);(case side2=>exact(Kd.V_reads' HO641.out).2.1);rintro e w47 ⟨v656,rfl,ho0,hb⟩;refine⟨_,rfl,?_⟩;replace HO641:=m0 (Kd.V_elder' (by(with_reducible repeat(first|apply Kd.V_alloc|apply Kd.V_drewN|apply Kd.V_drew));exact HO641.out) (Kd.R_base ho0) hb);replace HO648:=rb HO648 hb;have HO657:=m0 (Kd.R_lower (Kd.R_new' ho0 (Kd.R_lt (br HO653.out))) (below_size bz));replace HO653:=m0 (Kd.R_elder' (br HO653.out) (Kd.R_base ho0) hb);replace BK638:=bb BK638 hb;replace HB:=sb HB hb;(try clear hb);(try clear ho0)))
        go_ret2
        exact⟨_,by first|rfl|(simp[errW_none,errW_some]<;>rfl)|(simp[*,errW_none,errW_some]<;>rfl),by first|exact Kd.R_nil _ _ _ _ _|exact Kd.N_nil _ _ _ _ _|exact Kd.V_nil _ _ _ _ _|exact Kd.Q_nil _ _ _ _ _|exact Kd.S_nil _ _ _ _ _,by repeat(first|(with_reducible first|exact HB.out|apply below_alloc|apply pw_below_drewN|apply below_drew1|refine below_set ?_ GE638.out)|exact HB.out)⟩
    · rw[if_neg c10]at H;have c10b0:=beq_eq_false_iff_ne.mpr c10;have c10b1:=bne_iff_ne.mpr c10;simp only[Option.some.injEq,Prod.mk.injEq]at H;obtain⟨rfl,rfl⟩:=H;go_enter Tryz.func25,Tryz.ntmps25
      try go_wp2_with (first|((with_reducible refine ga 3 rfl ?_);refine be 3 40 #[.int .i64 a1_0,.int .i64 a1_1] ?_;intro gb638 hg w48 hbox hb;have BK638:=m0 hbox;have GW638:=gw w hg;have GE638:=gw w hg;replace HB:=sb HB hb;clear hb hbox hg)|((with_reducible refine gc 45 rfl ?_);refine gl (some 15) Tryz.func45 #[.slice A0 l0.length c0] ?_;(with_reducible refine(L_open.calls k (fun k_=>k_<w.heap.size) _ _ l0 t639 t642 _ ?side1 A3.out).mono ?_);(case side1=>exact Kd.V_mk HC0.out (Kd.F_below (Kd.C_F (Kd.heap_int .i64) HR0.out) bz));rintro e w49 ⟨v640,rfl,ho0,hb⟩;refine⟨_,rfl,?_⟩;have HO641:=hv w (fun k_=>k_≠gb638) ho0 (fun k_ hk_=>Or.elim hk_ (fun hs_=>fun e_=>Nat.not_le.2 hs_ (by rw[e_];exact GW638.out)) (fb BK638 ·));replace BK638:=bb BK638 hb;replace HB:=sb HB hb;(try clear hb);(try clear ho0)))
      replace HO641:=m0 (Kd.V_drew HO641.out);replace BK638:=bd BK638;replace HB:=sd HB;refine start_ (n:=16) (S:=fun w'=>w'.cell? ⟨gb638,0,none⟩=some (.int .i64 a1_0)∧w'.cell? ⟨gb638,1,none⟩=some (.int .i64 a1_1)) (ds:=[]) _ (by kernel_rfl) rfl rfl cz (fun hH=>?_);refine with_tabW L_UndoneIn.tab2 L_UndoneIn.bits2 (fun HT_ HW_=>?_);generalize w49.drew=w50 at HO641 BK638 HB hH ⊢;refine pZ 0 (some 18) (bs 16 1) HT_ ?_;refine pZ 1 (some 19) (bs 16 3) HT_ ?_;refine pZ 4 (some 22) (bs 16 19) HT_ ?_;refine pZ 7 (some 25) (bs 16 147) HT_ ?_;refine pZ 9 (some 27) (bs 16 659) HT_ ?_;refine takeZ 2 (some 20) (bs 16 663) (tw HT_ HW_) hH ?_;refine takeZ 5 (some 23) (bs 16 695) (tw HT_ HW_) hH ?_;refine takeZ 8 (some 26) (bs 16 951) (tw HT_ HW_) hH ?_;refine takeZ 10 (some 28) (bs 16 1975) (tw HT_ HW_) hH ?_;refine pZ 11 (some 29) (bs 16 4023) HT_ ?_;refine oneZ 3 (some 21) (bs 16 4031) (o1 HT_) fun K hK=>?_;refine gz Tryz.func55 #[.int .i64 a1_0] ?_
      with_reducible refine(L_constantErr.calls a1_0 t643 _ A4.out).mono ?_
      rintro e w' ⟨rfl,⟨nd,rfl⟩⟩;refine⟨_,rfl,?_⟩;refine hK.out _ _ cz (fun hH=>?_);clear hK K;refine nz 21 ?_;refine oneZ 6 (some 24) (bs 16 4095) (o1 HT_) fun K hK=>?_;refine gz Tryz.func55 #[.int .i64 a1_1] ?_
      with_reducible refine(L_constantErr.calls a1_1 t644 _ A5.out).mono ?_
      rintro e w' ⟨rfl,⟨nd,rfl⟩⟩;refine⟨_,rfl,?_⟩;refine hK.out _ _ cz (fun hH=>?_);clear hK K;refine nz 24 ?_;refine oneZ 12 (some 30) (bs 16 8191) (o1 HT_) fun K hK=>?_;refine gz Tryz.func49 #[.bool (decide (a1_0≤a1_1)),.int .i64 9] ?_
      with_reducible refine(L_unless.calls (decide (a1_0≤a1_1)) 9 t645 _ A6.out).mono ?_
      rintro e w' ⟨rfl,⟨nd,rfl⟩⟩;refine⟨_,rfl,?_⟩;refine hK.out _ _ cz (fun hH=>?_);clear hK K;refine nz 30 ?_;refine oneZ 13 (some 31) (bs 16 16383) (o1 HT_) fun K hK=>?_;refine Kd.R_lit_step (Kd.int .i64) _ 35 ?hg (N:=31) ?hd (xs:=([t642,t643,t644,t645]:List Int)) (inner:=[.int .i64 t642,.int .i64 t643,.int .i64 t644,.int .i64 t645]) (ok:=fun _=>True) (okp:=fun _=>True) ?hr ?hp (fun _ hk=>hk) trivial (Below.refl _ _) (Nat.le_refl _) (by simp) ?_;(case hd=>rfl);(case hg=>rfl);(case hr=>first|(go_simp;done)|(go_simp;rfl));(case hp=>exact(Reps.one (ki t642) (Reps.one (ki t643) (Reps.one (ki t644) (Reps.one (ki t645) (Reps.none _ _))))))
      intro v647 w51 ho52 hb hg_ hnew_;clear hg_ hnew_
      (first|rw[← Ny646.out]at ho52|(simp only[Int.reduceToNat]at ho52;rw[← Ny646.out]at ho52))
      replace HO641:=m0 (Kd.V_elder' (by(with_reducible repeat(first|apply Kd.V_alloc|apply Kd.V_drewN|apply Kd.V_drew));exact HO641.out) (Kd.R_base ho52) hb);have HO648:=m0 (Kd.R_lower ho52 (below_size bz));replace BK638:=bb BK638 hb;replace HB:=sb HB hb;clear hb ho52;obtain⟨Ao53,co53,eo53⟩:=Kd.R_slice HO648.out;subst eo53;refine hK.out _ _ cz (fun hH=>?_);clear hK K;refine nz 31 ?_;refine oneZ 14 (some 32) (bs 16 32767) (o1 HT_) fun K hK=>?_;refine gz Tryz.func48 #[.slice Ao53 y646.length co53] ?_
      with_reducible refine(L_first.calls k _ _ y646 t649 _ ?side1 ?side2 A7.out).mono ?_
      (case side1=>exact bc (Kd.R_reads' HO648.out).2.2)
      (case side2=>exact(Kd.R_reads' HO648.out).2.1)
      rintro e w' ⟨rfl,⟨nd,rfl⟩⟩;refine⟨_,rfl,?_⟩;refine hK.out _ _ cz (fun hH=>?_);clear hK K;refine nz 32 ?_;refine pZ 15 (some 7) (bs 16 65535) HT_ ?_;refine done_ (done_of HT_.out (by kernel_rfl)) ?_;obtain⟨_,_,_,_⟩:=b2 BK638;obtain⟨Ao55,co55,eo55⟩:=Kd.V_slice HO641.out;subst eo55
      try go_wp2_with (first|((with_reducible refine gc 60 rfl ?_);refine gl (some 40) Tryz.func60 #[.slice Ao55 t639.length co55,.int .i64 a1_0] ?_;(with_reducible refine(L_profile_shares.calls k _ _ t639 a1_0 t650 t651 _ ?side1 ?side2 A9.out).mono ?_);(case side1=>exact bc (Kd.V_reads' HO641.out).2.2);(case side2=>exact(Kd.V_reads' HO641.out).2.1);rintro e w56 ⟨v652,rfl,ho0,hb⟩;refine⟨_,rfl,?_⟩;replace HO641:=m0 (Kd.V_elder' (by(with_reducible repeat(first|apply Kd.V_alloc|apply Kd.V_drewN|apply Kd.V_drew));exact HO641.out) (Kd.R_base ho0) hb);replace HO648:=rb HO648 hb;have HO653:=m0 (Kd.R_lower ho0 (below_size bz));replace BK638:=bb BK638 hb;replace HB:=sb HB hb;(try clear hb);(try clear ho0)))
      go_ret2
      exact⟨_,by first|rfl|(simp[errW_none,errW_some]<;>rfl)|(simp[*,errW_none,errW_some]<;>rfl),by first|exact Kd.R_nil _ _ _ _ _|exact Kd.N_nil _ _ _ _ _|exact Kd.V_nil _ _ _ _ _|exact Kd.Q_nil _ _ _ _ _|exact Kd.S_nil _ _ _ _ _,by repeat(first|(with_reducible first|exact HB.out|apply below_alloc|apply pw_below_drewN|apply below_drew1|refine below_set ?_ GE638.out)|exact HB.out)⟩
  · rw[if_neg c8]at H;have c8b0:=beq_eq_false_iff_ne.mpr c8;have c8b1:=bne_iff_ne.mpr c8;simp only[Option.some.injEq,Prod.mk.injEq]at H;obtain⟨rfl,rfl⟩:=H;go_enter Tryz.func25,Tryz.ntmps25
    try go_wp2_with (first|((with_reducible refine ga 3 rfl ?_);refine be 3 40 #[.int .i64 a1_0,.int .i64 a1_1] ?_;intro gb638 hg w57 hbox hb;have BK638:=m0 hbox;have GW638:=gw w hg;have GE638:=gw w hg;replace HB:=sb HB hb;clear hb hbox hg)|((with_reducible refine gc 45 rfl ?_);refine gl (some 15) Tryz.func45 #[.slice A0 l0.length c0] ?_;(with_reducible refine(L_open.calls k (fun k_=>k_<w.heap.size) _ _ l0 t639 t642 _ ?side1 A3.out).mono ?_);(case side1=>exact Kd.V_mk HC0.out (Kd.F_below (Kd.C_F (Kd.heap_int .i64) HR0.out) bz));rintro e w58 ⟨v640,rfl,ho0,hb⟩;refine⟨_,rfl,?_⟩;have HO641:=hv w (fun k_=>k_≠gb638) ho0 (fun k_ hk_=>Or.elim hk_ (fun hs_=>fun e_=>Nat.not_le.2 hs_ (by rw[e_];exact GW638.out)) (fb BK638 ·));replace BK638:=bb BK638 hb;replace HB:=sb HB hb;(try clear hb);(try clear ho0)))
    replace HO641:=m0 (Kd.V_drew HO641.out);replace BK638:=bd BK638;replace HB:=sd HB;refine start_ (n:=16) (S:=fun w'=>w'.cell? ⟨gb638,0,none⟩=some (.int .i64 a1_0)∧w'.cell? ⟨gb638,1,none⟩=some (.int .i64 a1_1)) (ds:=[]) _ (by kernel_rfl) rfl rfl cz (fun hH=>?_);refine with_tabW L_UndoneIn.tab2 L_UndoneIn.bits2 (fun HT_ HW_=>?_);generalize w58.drew=w59 at HO641 BK638 HB hH ⊢;refine pZ 0 (some 18) (bs 16 1) HT_ ?_;refine pZ 1 (some 19) (bs 16 3) HT_ ?_;refine pZ 4 (some 22) (bs 16 19) HT_ ?_;refine pZ 7 (some 25) (bs 16 147) HT_ ?_;refine pZ 9 (some 27) (bs 16 659) HT_ ?_;refine takeZ 2 (some 20) (bs 16 663) (tw HT_ HW_) hH ?_;refine takeZ 5 (some 23) (bs 16 695) (tw HT_ HW_) hH ?_;refine takeZ 8 (some 26) (bs 16 951) (tw HT_ HW_) hH ?_;refine takeZ 10 (some 28) (bs 16 1975) (tw HT_ HW_) hH ?_;refine pZ 11 (some 29) (bs 16 4023) HT_ ?_;refine oneZ 3 (some 21) (bs 16 4031) (o1 HT_) fun K hK=>?_;refine gz Tryz.func55 #[.int .i64 a1_0] ?_
    with_reducible refine(L_constantErr.calls a1_0 t643 _ A4.out).mono ?_
    rintro e w' ⟨rfl,⟨nd,rfl⟩⟩;refine⟨_,rfl,?_⟩;refine hK.out _ _ cz (fun hH=>?_);clear hK K;refine nz 21 ?_;refine oneZ 6 (some 24) (bs 16 4095) (o1 HT_) fun K hK=>?_;refine gz Tryz.func55 #[.int .i64 a1_1] ?_
    with_reducible refine(L_constantErr.calls a1_1 t644 _ A5.out).mono ?_
    rintro e w' ⟨rfl,⟨nd,rfl⟩⟩;refine⟨_,rfl,?_⟩;refine hK.out _ _ cz (fun hH=>?_);clear hK K;refine nz 24 ?_;refine oneZ 12 (some 30) (bs 16 8191) (o1 HT_) fun K hK=>?_;refine gz Tryz.func49 #[.bool (decide (a1_0≤a1_1)),.int .i64 9] ?_
    with_reducible refine(L_unless.calls (decide (a1_0≤a1_1)) 9 t645 _ A6.out).mono ?_
    rintro e w' ⟨rfl,⟨nd,rfl⟩⟩;refine⟨_,rfl,?_⟩;refine hK.out _ _ cz (fun hH=>?_);clear hK K;refine nz 30 ?_;refine oneZ 13 (some 31) (bs 16 16383) (o1 HT_) fun K hK=>?_;refine Kd.R_lit_step (Kd.int .i64) _ 35 ?hg (N:=31) ?hd (xs:=([t642,t643,t644,t645]:List Int)) (inner:=[.int .i64 t642,.int .i64 t643,.int .i64 t644,.int .i64 t645]) (ok:=fun _=>True) (okp:=fun _=>True) ?hr ?hp (fun _ hk=>hk) trivial (Below.refl _ _) (Nat.le_refl _) (by simp) ?_;(case hd=>rfl);(case hg=>rfl);(case hr=>first|(go_simp;done)|(go_simp;rfl));(case hp=>exact(Reps.one (ki t642) (Reps.one (ki t643) (Reps.one (ki t644) (Reps.one (ki t645) (Reps.none _ _))))))
    intro v647 w60 ho61 hb hg_ hnew_;clear hg_ hnew_
    (first|rw[← Ny646.out]at ho61|(simp only[Int.reduceToNat]at ho61;rw[← Ny646.out]at ho61))
    replace HO641:=m0 (Kd.V_elder' (by(with_reducible repeat(first|apply Kd.V_alloc|apply Kd.V_drewN|apply Kd.V_drew));exact HO641.out) (Kd.R_base ho61) hb);have HO648:=m0 (Kd.R_lower ho61 (below_size bz));replace BK638:=bb BK638 hb;replace HB:=sb HB hb;clear hb ho61;obtain⟨Ao62,co62,eo62⟩:=Kd.R_slice HO648.out;subst eo62;refine hK.out _ _ cz (fun hH=>?_);clear hK K;refine nz 31 ?_;refine oneZ 14 (some 32) (bs 16 32767) (o1 HT_) fun K hK=>?_;refine gz Tryz.func48 #[.slice Ao62 y646.length co62] ?_
    with_reducible refine(L_first.calls k _ _ y646 t649 _ ?side1 ?side2 A7.out).mono ?_
    (case side1=>exact bc (Kd.R_reads' HO648.out).2.2)
    (case side2=>exact(Kd.R_reads' HO648.out).2.1)
    rintro e w' ⟨rfl,⟨nd,rfl⟩⟩;refine⟨_,rfl,?_⟩;refine hK.out _ _ cz (fun hH=>?_);clear hK K;refine nz 32 ?_;refine pZ 15 (some 7) (bs 16 65535) HT_ ?_;refine done_ (done_of HT_.out (by kernel_rfl)) ?_
    try go_wp2
    go_ret2
    exact⟨_,by first|rfl|(simp[errW_none,errW_some]<;>rfl)|(simp[*,errW_none,errW_some]<;>rfl),by first|exact Kd.R_nil _ _ _ _ _|exact Kd.N_nil _ _ _ _ _|exact Kd.V_nil _ _ _ _ _|exact Kd.Q_nil _ _ _ _ _|exact Kd.S_nil _ _ _ _ _,by repeat(first|(with_reducible first|exact HB.out|apply below_alloc|apply pw_below_drewN|apply below_drew1|refine below_set ?_ GE638.out)|exact HB.out)⟩
end
section
theorem slices_Clip_int_int.full (A:Option Addr) (n c:Nat) (w:World) (hc:n≤c):Calls Tryz.prog 86 #[.slice A n c] w fun e w'=>e= .returned (.slice A n n)∧Drawn0 w w':=by
 obtain⟨i0,hi0,_,_,_⟩:=info_parts info3;have hcut:=cut_full (P:=Tryz.prog) 22 3 Tryz.underlying22 hi0 A n c hc;clear hi0 hc;go_enter Tryz.func86,Tryz.ntmps86
 go_wp2
 go_ret
 exact⟨rz,by repeat(first|exact Drawn0.refl _|apply Drawn0.step)⟩
end
section
def L_factors_times.f (l0 l1:List Int) (a1 a2:Int):Option (List Int×List Int):=if l0.length<17592186044415 then(if l1.length<17592186044415 then some (l0++ [a1],l1++ [a2])else none)else none
section
open Go.Region
variable (A0:Option Addr) (c0:Nat) (l0:List Int) (A1:Option Addr) (c1:Nat) (l1:List Int) (a1 a2:Int) (g3 g6:Nat)
def L_factors_times.act (t9 t11 t12 t15 t17 t18:Value):Act:={tmps:= #[.agg #[.slice A0 l0.length c0,.slice A1 l1.length c1],.int .i64 a1,.int .i64 a2,.pointer (some ⟨g3,0,none⟩),undef,undef,.pointer (some ⟨g6,0,none⟩),.pointer (some ⟨g3,0,none⟩),.slice A0 l0.length c0,t9,.int .i64 a1,t11,t12,.pointer (some ⟨g3,1,none⟩),.slice A1 l1.length c1,t15,.int .i64 a2,t17,t18,undef],defers:=[] }
def L_factors_times.tls (b2 b4 b5 b8 b10 b11:Bool):Array Bool:= #[true,true,b2,true,b4,b5,true,true,b8,true,b10,b11,false,false]
structure L_factors_times.Fx (w W:World) (b2 b4 b5 b8 b10:Bool) (t9 t11 t12 t15 t17:Value):Prop where
 hb:Below w.heap.size w W
 k3:W.heap[g3]?=some (.cells #[.slice A0 l0.length c0,.slice A1 l1.length c1] 112 (0,0))
 k6:W.heap[g6]?=some (.cells #[.slice none 0 0,.slice none 0 0] 112 (0,0))
 f2:b2=true→t9= .slice A0 l0.length l0.length
 f4:b4=true→Kd.R (Kd.int .i64) 3 W w.heap.size (fun k=>k≠g3∧k≠g6) t11 [a1]
 f5:b5=true→Kd.R (Kd.int .i64) 3 W w.heap.size (fun k=>k≠g3∧k≠g6) t12 (l0++ [a1])
 f8:b8=true→t15= .slice A1 l1.length l1.length
 f10:b10=true→Kd.R (Kd.int .i64) 3 W w.heap.size (fun k=>k≠g3∧k≠g6) t17 [a2]
variable {A0 c0 l0 A1 c1 l1 a1 a2 g3 g6}
theorem L_factors_times.Fx.step {w W W':World} {b2 b4 b5 b8 b10:Bool} {t9 t11 t12 t15 t17:Value} (F:L_factors_times.Fx A0 c0 l0 A1 c1 l1 a1 a2 g3 g6 w W b2 b4 b5 b8 b10 t9 t11 t12 t15 t17) (hb:Below W.heap.size W W'):L_factors_times.Fx A0 c0 l0 A1 c1 l1 a1 a2 g3 g6 w W' b2 b4 b5 b8 b10 t9 t11 t12 t15 t17:=
 ⟨below_step F.hb hb,blk_below F.k3 hb,blk_below F.k6 hb,F.f2,fun h=>Kd.R_below (F.f4 h) hb,fun h=>Kd.R_below (F.f5 h) hb,F.f8,fun h=>Kd.R_below (F.f10 h) hb⟩
theorem L_factors_times.fresh {W:World} (k3:W.heap[g3]?=some (.cells #[.slice A0 l0.length c0,.slice A1 l1.length c1] 112 (0,0))) (k6:W.heap[g6]?=some (.cells #[.slice none 0 0,.slice none 0 0] 112 (0,0))):∀ k,W.heap.size≤k→k≠g3∧k≠g6:=fun k hk=>⟨Kd.freshB k3 k hk,Kd.freshB k6 k hk⟩
theorem L_factors_times.grown {W w1:World} (hg:W.grownBy w1 none):Below W.heap.size W w1:=(Below.refl W.heap.size W).grown hg (Nat.le_refl _) (fun j hj=>by cases hj)
section
variable {Q:Exit→Act→World→Prop} {K:Act→World→Prop} {o:Oper} {w W:World} {b2 b4 b5 b8 b10:Bool} {t9 t11 t12 t15 t17 t18:Value}
theorem L_factors_times.ev2 (ho:(opsOf Tryz.f62 1)[2]?=some o) (hc:l0.length≤c0) (h:∀ W',Below W.heap.size W W'→K (L_factors_times.act A0 c0 l0 A1 c1 l1 a1 a2 g3 g6 (.slice A0 l0.length l0.length) t11 t12 t15 t17 t18) W'):
  if Region.wanted o (yielded (opsOf Tryz.f62 1) (L_factors_times.act A0 c0 l0 A1 c1 l1 a1 a2 g3 g6 t9 t11 t12 t15 t17 t18).tmps)=true then Oper.wp Tryz.prog o (L_factors_times.act A0 c0 l0 A1 c1 l1 a1 a2 g3 g6 t9 t11 t12 t15 t17 t18) W K Q else K ((L_factors_times.act A0 c0 l0 A1 c1 l1 a1 a2 g3 g6 t9 t11 t12 t15 t17 t18).put o.dst undef) W:=by
 obtain rfl:=Option.some.inj ho;refine goes_ (N:=some 9) Tryz.func86 (by kernel_rfl) rfl #[.slice A0 l0.length c0] (by rfl) rfl rfl (by simp only[List.map_toArray,List.map_cons,List.map_nil];rfl) ?_;refine(slices_Clip_int_int.full A0 l0.length c0 W hc).mono ?_;rintro e w' ⟨rfl,⟨q,rfl⟩⟩;exact⟨_,rfl,h _ (pw_below_drewN (Below.refl _ _) _)⟩
theorem L_factors_times.ev8 (ho:(opsOf Tryz.f62 1)[8]?=some o) (hc:l1.length≤c1) (h:∀ W',Below W.heap.size W W'→K (L_factors_times.act A0 c0 l0 A1 c1 l1 a1 a2 g3 g6 t9 t11 t12 (.slice A1 l1.length l1.length) t17 t18) W'):
  if Region.wanted o (yielded (opsOf Tryz.f62 1) (L_factors_times.act A0 c0 l0 A1 c1 l1 a1 a2 g3 g6 t9 t11 t12 t15 t17 t18).tmps)=true then Oper.wp Tryz.prog o (L_factors_times.act A0 c0 l0 A1 c1 l1 a1 a2 g3 g6 t9 t11 t12 t15 t17 t18) W K Q else K ((L_factors_times.act A0 c0 l0 A1 c1 l1 a1 a2 g3 g6 t9 t11 t12 t15 t17 t18).put o.dst undef) W:=by
 obtain rfl:=Option.some.inj ho;refine goes_ (N:=some 15) Tryz.func86 (by kernel_rfl) rfl #[.slice A1 l1.length c1] (by rfl) rfl rfl (by simp only[List.map_toArray,List.map_cons,List.map_nil];rfl) ?_;refine(slices_Clip_int_int.full A1 l1.length c1 W hc).mono ?_;rintro e w' ⟨rfl,⟨q,rfl⟩⟩;exact⟨_,rfl,h _ (pw_below_drewN (Below.refl _ _) _)⟩
theorem L_factors_times.ev4 (ho:(opsOf Tryz.f62 1)[4]?=some o) (hb:Below w.heap.size w W) (hf:∀ k,W.heap.size≤k→k≠g3∧k≠g6) (h:∀ v W',Kd.R (Kd.int .i64) 3 W' w.heap.size (fun k=>k≠g3∧k≠g6) v [a1]→Below W.heap.size W W'→K (L_factors_times.act A0 c0 l0 A1 c1 l1 a1 a2 g3 g6 t9 v t12 t15 t17 t18) W'):
  if Region.wanted o (yielded (opsOf Tryz.f62 1) (L_factors_times.act A0 c0 l0 A1 c1 l1 a1 a2 g3 g6 t9 t11 t12 t15 t17 t18).tmps)=true then Oper.wp Tryz.prog o (L_factors_times.act A0 c0 l0 A1 c1 l1 a1 a2 g3 g6 t9 t11 t12 t15 t17 t18) W K Q else K ((L_factors_times.act A0 c0 l0 A1 c1 l1 a1 a2 g3 g6 t9 t11 t12 t15 t17 t18).put o.dst undef) W:=by
 have hop:o.op= .buildSlice 22 1 #[(0,.tmp 10)]:=by cases ho;rfl
 have hds:o.dst=some 11:=by cases ho;rfl
 have hgd:o.guard=none:=by cases ho;rfl
 clear ho;refine Kd.R_lit_step (Kd.int .i64) (w0:=w) w.heap.size 3 (by simp[Region.wanted,hgd]) (N:=11) hds (xs:=[a1]) (inner:=[.int .i64 a1]) (ok:=fun k=>k≠g3∧k≠g6) (okp:=fun _=>False) ?hr (Reps.one (ki a1) (Reps.none _ _)) (fun _ hk=>hk.elim) (hf _ (Nat.le_refl _)) hb hb.size (by simp) (fun v1 w1 hR _ hg _=>by rw[hds];exact h v1 w1 hR (L_factors_times.grown hg))
 case hr=>unfold execOp;simp only[hop];unfold L_factors_times.act;first|(go_simp;done)|(go_simp;rfl)
theorem L_factors_times.ev10 (ho:(opsOf Tryz.f62 1)[10]?=some o) (hb:Below w.heap.size w W) (hf:∀ k,W.heap.size≤k→k≠g3∧k≠g6) (h:∀ v W',Kd.R (Kd.int .i64) 3 W' w.heap.size (fun k=>k≠g3∧k≠g6) v [a2]→Below W.heap.size W W'→K (L_factors_times.act A0 c0 l0 A1 c1 l1 a1 a2 g3 g6 t9 t11 t12 t15 v t18) W'):
  if Region.wanted o (yielded (opsOf Tryz.f62 1) (L_factors_times.act A0 c0 l0 A1 c1 l1 a1 a2 g3 g6 t9 t11 t12 t15 t17 t18).tmps)=true then Oper.wp Tryz.prog o (L_factors_times.act A0 c0 l0 A1 c1 l1 a1 a2 g3 g6 t9 t11 t12 t15 t17 t18) W K Q else K ((L_factors_times.act A0 c0 l0 A1 c1 l1 a1 a2 g3 g6 t9 t11 t12 t15 t17 t18).put o.dst undef) W:=by
 have hop:o.op= .buildSlice 22 1 #[(0,.tmp 16)]:=by cases ho;rfl
 have hds:o.dst=some 17:=by cases ho;rfl
 have hgd:o.guard=none:=by cases ho;rfl
 clear ho;refine Kd.R_lit_step (Kd.int .i64) (w0:=w) w.heap.size 3 (by simp[Region.wanted,hgd]) (N:=17) hds (xs:=[a2]) (inner:=[.int .i64 a2]) (ok:=fun k=>k≠g3∧k≠g6) (okp:=fun _=>False) ?hr (Reps.one (ki a2) (Reps.none _ _)) (fun _ hk=>hk.elim) (hf _ (Nat.le_refl _)) hb hb.size (by simp) (fun v1 w1 hR _ hg _=>by rw[hds];exact h v1 w1 hR (L_factors_times.grown hg))
 case hr=>unfold execOp;simp only[hop];unfold L_factors_times.act;first|(go_simp;done)|(go_simp;rfl)
theorem L_factors_times.ev5 (ho:(opsOf Tryz.f62 1)[5]?=some o) (h9:t9= .slice A0 l0.length l0.length) (HR:Kd.C (Kd.int .i64) W A0 l0.length l0) (h11:Kd.R (Kd.int .i64) 3 W w.heap.size (fun k=>k≠g3∧k≠g6) t11 [a1]) (hl:l0.length<17592186044415) (hb:Below w.heap.size w W) (hf:∀ k,W.heap.size≤k→k≠g3∧k≠g6) (h:∀ v W',Kd.R (Kd.int .i64) 3 W' w.heap.size (fun k=>k≠g3∧k≠g6) v (l0++ [a1])→Below W.heap.size W W'→K (L_factors_times.act A0 c0 l0 A1 c1 l1 a1 a2 g3 g6 t9 t11 v t15 t17 t18) W'):
  if Region.wanted o (yielded (opsOf Tryz.f62 1) (L_factors_times.act A0 c0 l0 A1 c1 l1 a1 a2 g3 g6 t9 t11 t12 t15 t17 t18).tmps)=true then Oper.wp Tryz.prog o (L_factors_times.act A0 c0 l0 A1 c1 l1 a1 a2 g3 g6 t9 t11 t12 t15 t17 t18) W K Q else K ((L_factors_times.act A0 c0 l0 A1 c1 l1 a1 a2 g3 g6 t9 t11 t12 t15 t17 t18).put o.dst undef) W:=by
 obtain rfl:=Option.some.inj ho;exact Kd.R_append_full_rows_step .i64 (w0:=w) w.heap.size (by rfl) (.tmp 9) (.tmp 11) 22 3 (.int .i64 0) 8 rfl Tryz.underlying22 info3 rfl (by decide) A0 l0.length l0 [a1] t11 (fun k=>k≠g3∧k≠g6) (by rw[← h9];rfl) rfl HR h11 (by simp) hf hb hb.size (by simp;omega) (fun v1 w1 hR _ hg _=>h v1 w1 hR (L_factors_times.grown hg))
theorem L_factors_times.ev11 (ho:(opsOf Tryz.f62 1)[11]?=some o) (h15:t15= .slice A1 l1.length l1.length) (HR:Kd.C (Kd.int .i64) W A1 l1.length l1) (h17:Kd.R (Kd.int .i64) 3 W w.heap.size (fun k=>k≠g3∧k≠g6) t17 [a2]) (hl:l1.length<17592186044415) (hb:Below w.heap.size w W) (hf:∀ k,W.heap.size≤k→k≠g3∧k≠g6) (h:∀ v W',Kd.R (Kd.int .i64) 3 W' w.heap.size (fun k=>k≠g3∧k≠g6) v (l1++ [a2])→Below W.heap.size W W'→(∃ b,v.ownBlock=some b∧W.heap.size≤b)→K (L_factors_times.act A0 c0 l0 A1 c1 l1 a1 a2 g3 g6 t9 t11 t12 t15 t17 v) W'):
  if Region.wanted o (yielded (opsOf Tryz.f62 1) (L_factors_times.act A0 c0 l0 A1 c1 l1 a1 a2 g3 g6 t9 t11 t12 t15 t17 t18).tmps)=true then Oper.wp Tryz.prog o (L_factors_times.act A0 c0 l0 A1 c1 l1 a1 a2 g3 g6 t9 t11 t12 t15 t17 t18) W K Q else K ((L_factors_times.act A0 c0 l0 A1 c1 l1 a1 a2 g3 g6 t9 t11 t12 t15 t17 t18).put o.dst undef) W:=by
 obtain rfl:=Option.some.inj ho;refine Kd.R_append_full_rows_step .i64 (w0:=w) w.heap.size (by rfl) (.tmp 15) (.tmp 17) 22 3 (.int .i64 0) 8 rfl Tryz.underlying22 info3 rfl (by decide) A1 l1.length l1 [a2] t17 (fun k=>k≠g3∧k≠g6) (by rw[← h15];rfl) rfl HR h17 (by simp) hf hb hb.size (by simp;omega) (fun v1 w1 hR _ hg hn=>h v1 w1 hR (L_factors_times.grown hg) ?_)
 rcases hn with h0|hn
 ·obtain ⟨_,inner,ho,hr⟩:=hR;obtain⟨_,⟨e,hz⟩|⟨g,cap,cur,rfl,_⟩⟩:=ho
  ·simp at hz
  ·cases h0
 ·exact hn
end
def L_factors_times.S (A0:Option Addr) (c0:Nat) (l0:List Int) (A1:Option Addr) (c1:Nat) (l1:List Int) (g3:Nat):World→Prop:=fun w'=>w'.cell? ⟨g3,0,none⟩=some (.slice A0 l0.length c0)∧w'.cell? ⟨g3,1,none⟩=some (.slice A1 l1.length c1)
theorem L_factors_times.S_of {W:World} (k3:W.heap[g3]?=some (.cells #[.slice A0 l0.length c0,.slice A1 l1.length c1] 112 (0,0))):L_factors_times.S A0 c0 l0 A1 c1 l1 g3 W:=⟨(blk_cell k3 0).trans rfl,(blk_cell k3 1).trans rfl⟩
def L_factors_times.ok:List (Bool×Bool×Bool×Bool×Bool×List Nat×Nat):=[(false,false,false,false,false,[2,4,10],6),(true,false,false,false,false,[4,10],5),(false,true,false,false,false,[2,10],5),(false,false,false,false,true,[2,4],5),(true,true,false,false,false,[5,10],4),(true,false,false,false,true,[4],4),(false,true,false,false,true,[2],4),(true,true,true,false,false,[8,10],3),(true,true,false,false,true,[5],3),(true,true,true,true,false,[10],2),(true,true,true,false,true,[8],2),(true,true,true,true,true,[11],1)]
theorem L_factors_times.walk {Q:Exit→Act→World→Prop} {w:World} (hr0:Kd.C (Kd.int .i64) w A0 l0.length l0) (hc0:l0.length≤c0) (hr1:Kd.C (Kd.int .i64) w A1 l1.length l1) (hc1:l1.length≤c1) (hl0:l0.length<17592186044415) (hl1:l1.length<17592186044415)
  (hfin:∀ t9 t11 t15 t17 v0 v1 W,Below w.heap.size w W→W.heap[g3]?=some (.cells #[.slice A0 l0.length c0,.slice A1 l1.length c1] 112 (0,0))→W.heap[g6]?=some (.cells #[.slice none 0 0,.slice none 0 0] 112 (0,0))→Kd.R (Kd.int .i64) 3 W w.heap.size (fun k=>k≠g3∧k≠g6) v0 (l0++ [a1])→Kd.R (Kd.int .i64) 3 W w.heap.size (fun k=>k≠g3∧k≠g6) v1 (l1++ [a2])→(∀ k,some k=v0.ownBlock→some k≠v1.ownBlock)→
   wpAnyLast Tryz.prog .any (opsOf Tryz.f62 1) Q (L_factors_times.S A0 c0 l0 A1 c1 l1 g3) [] 2 (L_factors_times.tls true true true true true true) (L_factors_times.act A0 c0 l0 A1 c1 l1 a1 a2 g3 g6 t9 t11 v0 t15 t17 v1) W):
  ∀ (m:Nat) (b2 b4 b5 b8 b10:Bool) (rs:List Nat) (t9 t11 t12 t15 t17:Value) (W:World),(b2,b4,b5,b8,b10,rs,m)∈L_factors_times.ok→L_factors_times.Fx A0 c0 l0 A1 c1 l1 a1 a2 g3 g6 w W b2 b4 b5 b8 b10 t9 t11 t12 t15 t17→
   wpAnyLast Tryz.prog .any (opsOf Tryz.f62 1) Q (L_factors_times.S A0 c0 l0 A1 c1 l1 g3) [] (m+2) (L_factors_times.tls b2 b4 b5 b8 b10 false) (L_factors_times.act A0 c0 l0 A1 c1 l1 a1 a2 g3 g6 t9 t11 t12 t15 t17 undef) W:=by
 obtain⟨o2,h2⟩:∃ o,(opsOf Tryz.f62 1)[2]?=some o:=⟨_,rfl⟩;obtain⟨o4,h4⟩:∃ o,(opsOf Tryz.f62 1)[4]?=some o:=⟨_,rfl⟩;obtain⟨o5,h5⟩:∃ o,(opsOf Tryz.f62 1)[5]?=some o:=⟨_,rfl⟩;obtain⟨o8,h8⟩:∃ o,(opsOf Tryz.f62 1)[8]?=some o:=⟨_,rfl⟩;obtain⟨o10,h10⟩:∃ o,(opsOf Tryz.f62 1)[10]?=some o:=⟨_,rfl⟩;obtain⟨o11,h11⟩:∃ o,(opsOf Tryz.f62 1)[11]?=some o:=⟨_,rfl⟩;intro m
 induction m with
 |zero=>intro b2 b4 b5 b8 b10 rs t9 t11 t12 t15 t17 W hm;simp[L_factors_times.ok]at hm
 | succ m ih=>
  intro b2 b4 b5 b8 b10 rs t9 t11 t12 t15 t17 W hm F;have hf:=L_factors_times.fresh F.k3 F.k6;have key:∀ (b2' b4' b5' b8' b10':Bool) (rs':List Nat) (t9' t11' t12' t15' t17':Value) (W':World),(b2',b4',b5',b8',b10',rs',m)∈L_factors_times.ok→L_factors_times.Fx A0 c0 l0 A1 c1 l1 a1 a2 g3 g6 w W' b2' b4' b5' b8' b10' t9' t11' t12' t15' t17'→∀ (l':Array Bool),l'=L_factors_times.tls b2' b4' b5' b8' b10' false→∀ K':Act→World→Prop,Shut (∀ a w',L_factors_times.S A0 c0 l0 A1 c1 l1 g3 w'→(L_factors_times.S A0 c0 l0 A1 c1 l1 g3 w'→wpAnyLast Tryz.prog .any (opsOf Tryz.f62 1) Q (L_factors_times.S A0 c0 l0 A1 c1 l1 g3) [] (m+2) l' a w')→K' a w')→K' (L_factors_times.act A0 c0 l0 A1 c1 l1 a1 a2 g3 g6 t9' t11' t12' t15' t17' undef) W':=fun b2' b4' b5' b8' b10' rs' t9' t11' t12' t15' t17' W' hm' F' l' hl' K' hK'=>hK'.out _ _ (L_factors_times.S_of F'.k3) (fun _=>hl'▸ih b2' b4' b5' b8' b10' rs' t9' t11' t12' t15' t17' W' hm' F');have E2:b2=false→∀ rs',(true,b4,b5,b8,b10,rs',m)∈L_factors_times.ok→∀ rs,AllReadyL Tryz.prog .any (opsOf Tryz.f62 1) Q (L_factors_times.S A0 c0 l0 A1 c1 l1 g3) [] (m+2) (L_factors_times.tls b2 b4 b5 b8 b10 false) (L_factors_times.act A0 c0 l0 A1 c1 l1 a1 a2 g3 g6 t9 t11 t12 t15 t17 undef) W rs→AllReadyL Tryz.prog .any (opsOf Tryz.f62 1) Q (L_factors_times.S A0 c0 l0 A1 c1 l1 g3) [] (m+2) (L_factors_times.tls b2 b4 b5 b8 b10 false) (L_factors_times.act A0 c0 l0 A1 c1 l1 a1 a2 g3 g6 t9 t11 t12 t15 t17 undef) W (2::rs):=fun _ rs' hm' rs hrs=>AllReadyL.cons h2 (by decide) (fun K' hK'=>L_factors_times.ev2 h2 hc0 (fun W' hb=>key true b4 b5 b8 b10 rs' _ _ _ _ _ W' hm' (let F':=F.step hb;⟨F'.hb,F'.k3,F'.k6,fun _=>rfl,F'.f4,F'.f5,F'.f8,F'.f10⟩) _ rfl K' hK')) hrs;have E4:b4=false→∀ rs',(b2,true,b5,b8,b10,rs',m)∈L_factors_times.ok→∀ rs,AllReadyL Tryz.prog .any (opsOf Tryz.f62 1) Q (L_factors_times.S A0 c0 l0 A1 c1 l1 g3) [] (m+2) (L_factors_times.tls b2 b4 b5 b8 b10 false) (L_factors_times.act A0 c0 l0 A1 c1 l1 a1 a2 g3 g6 t9 t11 t12 t15 t17 undef) W rs→AllReadyL Tryz.prog .any (opsOf Tryz.f62 1) Q (L_factors_times.S A0 c0 l0 A1 c1 l1 g3) [] (m+2) (L_factors_times.tls b2 b4 b5 b8 b10 false) (L_factors_times.act A0 c0 l0 A1 c1 l1 a1 a2 g3 g6 t9 t11 t12 t15 t17 undef) W (4::rs):=fun _ rs' hm' rs hrs=>AllReadyL.cons h4 (by decide) (fun K' hK'=>L_factors_times.ev4 h4 F.hb hf (fun v W' hR hb=>key b2 true b5 b8 b10 rs' _ _ _ _ _ W' hm' (let F':=F.step hb;⟨F'.hb,F'.k3,F'.k6,F'.f2,fun _=>hR,F'.f5,F'.f8,F'.f10⟩) _ rfl K' hK')) hrs;have E10:b10=false→∀ rs',(b2,b4,b5,b8,true,rs',m)∈L_factors_times.ok→∀ rs,AllReadyL Tryz.prog .any (opsOf Tryz.f62 1) Q (L_factors_times.S A0 c0 l0 A1 c1 l1 g3) [] (m+2) (L_factors_times.tls b2 b4 b5 b8 b10 false) (L_factors_times.act A0 c0 l0 A1 c1 l1 a1 a2 g3 g6 t9 t11 t12 t15 t17 undef) W rs→AllReadyL Tryz.prog .any (opsOf Tryz.f62 1) Q (L_factors_times.S A0 c0 l0 A1 c1 l1 g3) [] (m+2) (L_factors_times.tls b2 b4 b5 b8 b10 false) (L_factors_times.act A0 c0 l0 A1 c1 l1 a1 a2 g3 g6 t9 t11 t12 t15 t17 undef) W (10::rs):=fun _ rs' hm' rs hrs=>AllReadyL.cons h10 (by decide) (fun K' hK'=>L_factors_times.ev10 h10 F.hb hf (fun v W' hR hb=>key b2 b4 b5 b8 true rs' _ _ _ _ _ W' hm' (let F':=F.step hb;⟨F'.hb,F'.k3,F'.k6,F'.f2,F'.f4,F'.f5,F'.f8,fun _=>hR⟩) _ rfl K' hK')) hrs;have E5:b2=true→b4=true→∀ rs',(b2,b4,true,b8,b10,rs',m)∈L_factors_times.ok→∀ rs,AllReadyL Tryz.prog .any (opsOf Tryz.f62 1) Q (L_factors_times.S A0 c0 l0 A1 c1 l1 g3) [] (m+2) (L_factors_times.tls b2 b4 b5 b8 b10 false) (L_factors_times.act A0 c0 l0 A1 c1 l1 a1 a2 g3 g6 t9 t11 t12 t15 t17 undef) W rs→AllReadyL Tryz.prog .any (opsOf Tryz.f62 1) Q (L_factors_times.S A0 c0 l0 A1 c1 l1 g3) [] (m+2) (L_factors_times.tls b2 b4 b5 b8 b10 false) (L_factors_times.act A0 c0 l0 A1 c1 l1 a1 a2 g3 g6 t9 t11 t12 t15 t17 undef) W (5::rs):=fun e2 e4 rs' hm' rs hrs=>AllReadyL.cons h5 (by decide) (fun K' hK'=>L_factors_times.ev5 h5 (F.f2 e2) (Kd.C_below hr0 F.hb) (F.f4 e4) hl0 F.hb hf (fun v W' hR hb=>key b2 b4 true b8 b10 rs' _ _ _ _ _ W' hm' (let F':=F.step hb;⟨F'.hb,F'.k3,F'.k6,F'.f2,F'.f4,fun _=>hR,F'.f8,F'.f10⟩) _ rfl K' hK')) hrs;have E8:∀ rs',(b2,b4,b5,true,b10,rs',m)∈L_factors_times.ok→∀ rs,AllReadyL Tryz.prog .any (opsOf Tryz.f62 1) Q (L_factors_times.S A0 c0 l0 A1 c1 l1 g3) [] (m+2) (L_factors_times.tls b2 b4 b5 b8 b10 false) (L_factors_times.act A0 c0 l0 A1 c1 l1 a1 a2 g3 g6 t9 t11 t12 t15 t17 undef) W rs→AllReadyL Tryz.prog .any (opsOf Tryz.f62 1) Q (L_factors_times.S A0 c0 l0 A1 c1 l1 g3) [] (m+2) (L_factors_times.tls b2 b4 b5 b8 b10 false) (L_factors_times.act A0 c0 l0 A1 c1 l1 a1 a2 g3 g6 t9 t11 t12 t15 t17 undef) W (8::rs):=fun rs' hm' rs hrs=>AllReadyL.cons h8 (by decide) (fun K' hK'=>L_factors_times.ev8 h8 hc1 (fun W' hb=>key b2 b4 b5 true b10 rs' _ _ _ _ _ W' hm' (let F':=F.step hb;⟨F'.hb,F'.k3,F'.k6,F'.f2,F'.f4,F'.f5,fun _=>rfl,F'.f10⟩) _ rfl K' hK')) hrs;clear ih;simp only[L_factors_times.ok,List.mem_cons,Prod.mk.injEq,List.not_mem_nil,or_false]at hm
  rcases hm with ⟨rfl,rfl,rfl,rfl,rfl,rfl,hm⟩|⟨rfl,rfl,rfl,rfl,rfl,rfl,hm⟩|⟨rfl,rfl,rfl,rfl,rfl,rfl,hm⟩|⟨rfl,rfl,rfl,rfl,rfl,rfl,hm⟩|⟨rfl,rfl,rfl,rfl,rfl,rfl,hm⟩|⟨rfl,rfl,rfl,rfl,rfl,rfl,hm⟩|⟨rfl,rfl,rfl,rfl,rfl,rfl,hm⟩|⟨rfl,rfl,rfl,rfl,rfl,rfl,hm⟩|⟨rfl,rfl,rfl,rfl,rfl,rfl,hm⟩|⟨rfl,rfl,rfl,rfl,rfl,rfl,hm⟩|⟨rfl,rfl,rfl,rfl,rfl,rfl,hm⟩|⟨rfl,rfl,rfl,rfl,rfl,rfl,hm⟩
  ·obtain rfl:m=5:=by omega
   exact wpAnyLast_ready (rs:=[2,4,10]) (by kernel_rfl) (by simp) (E2 rfl [4,10] (by simp[L_factors_times.ok]) _ (E4 rfl [2,10] (by simp[L_factors_times.ok]) _ (E10 rfl [2,4] (by simp[L_factors_times.ok]) _ AllReadyL.nil)))
  ·obtain rfl:m=4:=by omega
   exact wpAnyLast_ready (rs:=[4,10]) (by kernel_rfl) (by simp) (E4 rfl [5,10] (by simp[L_factors_times.ok]) _ (E10 rfl [4] (by simp[L_factors_times.ok]) _ AllReadyL.nil))
  ·obtain rfl:m=4:=by omega
   exact wpAnyLast_ready (rs:=[2,10]) (by kernel_rfl) (by simp) (E2 rfl [5,10] (by simp[L_factors_times.ok]) _ (E10 rfl [2] (by simp[L_factors_times.ok]) _ AllReadyL.nil))
  ·obtain rfl:m=4:=by omega
   exact wpAnyLast_ready (rs:=[2,4]) (by kernel_rfl) (by simp) (E2 rfl [4] (by simp[L_factors_times.ok]) _ (E4 rfl [2] (by simp[L_factors_times.ok]) _ AllReadyL.nil))
  ·obtain rfl:m=3:=by omega
   exact wpAnyLast_ready (rs:=[5,10]) (by kernel_rfl) (by simp) (E5 rfl rfl [8,10] (by simp[L_factors_times.ok]) _ (E10 rfl [5] (by simp[L_factors_times.ok]) _ AllReadyL.nil))
  ·obtain rfl:m=3:=by omega
   exact wpAnyLast_ready (rs:=[4]) (by kernel_rfl) (by simp) (E4 rfl [5] (by simp[L_factors_times.ok]) _ AllReadyL.nil)
  ·obtain rfl:m=3:=by omega
   exact wpAnyLast_ready (rs:=[2]) (by kernel_rfl) (by simp) (E2 rfl [5] (by simp[L_factors_times.ok]) _ AllReadyL.nil)
  ·obtain rfl:m=2:=by omega
   exact wpAnyLast_ready (rs:=[8,10]) (by kernel_rfl) (by simp) (E8 [10] (by simp[L_factors_times.ok]) _ (E10 rfl [8] (by simp[L_factors_times.ok]) _ AllReadyL.nil))
  ·obtain rfl:m=2:=by omega
   exact wpAnyLast_ready (rs:=[5]) (by kernel_rfl) (by simp) (E5 rfl rfl [8] (by simp[L_factors_times.ok]) _ AllReadyL.nil)
  ·obtain rfl:m=1:=by omega
   exact wpAnyLast_ready (rs:=[10]) (by kernel_rfl) (by simp) (E10 rfl [11] (by simp[L_factors_times.ok]) _ AllReadyL.nil)
  ·obtain rfl:m=1:=by omega
   exact wpAnyLast_ready (rs:=[8]) (by kernel_rfl) (by simp) (E8 [11] (by simp[L_factors_times.ok]) _ AllReadyL.nil)
  ·obtain rfl:m=0:=by omega
   refine wpAnyLast_ready (rs:=[11]) (by kernel_rfl) (by simp) (AllReadyL.cons h11 (by decide) (fun K' hK'=>L_factors_times.ev11 h11 (F.f8 rfl) (Kd.C_below hr1 F.hb) (F.f10 rfl) hl1 F.hb hf (fun v W' hR hb hn=>hK'.out _ _ (L_factors_times.S_of (F.step hb).k3) (fun _=>hfin _ _ _ _ _ _ W' (F.step hb).hb (F.step hb).k3 (F.step hb).k6 ((F.step hb).f5 rfl) hR (fun k e1 e2=>?_)))) AllReadyL.nil);obtain⟨b,e3,e4⟩:=hn;have e5:=Kd.R_lt (F.f5 rfl) k e1.symm;rw[e3]at e2
   injection e2 with e2
   omega
theorem L_factors_times.walk2 {Q:Exit→Act→World→Prop} {w:World} {ops:Array Oper} (hops:ops=opsOf Tryz.f62 1) (hr0:Kd.C (Kd.int .i64) w A0 l0.length l0) (hc0:l0.length≤c0) (hr1:Kd.C (Kd.int .i64) w A1 l1.length l1) (hc1:l1.length≤c1) (hl0:l0.length<17592186044415) (hl1:l1.length<17592186044415)
  (hfin:∀ t9 t11 t15 t17 v0 v1 W,Below w.heap.size w W→W.heap[g3]?=some (.cells #[.slice A0 l0.length c0,.slice A1 l1.length c1] 112 (0,0))→W.heap[g6]?=some (.cells #[.slice none 0 0,.slice none 0 0] 112 (0,0))→Kd.R (Kd.int .i64) 3 W w.heap.size (fun k=>k≠g3∧k≠g6) v0 (l0++ [a1])→Kd.R (Kd.int .i64) 3 W w.heap.size (fun k=>k≠g3∧k≠g6) v1 (l1++ [a2])→(∀ k,some k=v0.ownBlock→some k≠v1.ownBlock)→
   wpAnyLast Tryz.prog .any ops Q (L_factors_times.S A0 c0 l0 A1 c1 l1 g3) [] 2 (L_factors_times.tls true true true true true true) (L_factors_times.act A0 c0 l0 A1 c1 l1 a1 a2 g3 g6 t9 t11 v0 t15 t17 v1) W) (W:World) (F:L_factors_times.Fx A0 c0 l0 A1 c1 l1 a1 a2 g3 g6 w W false false false false false undef undef undef undef undef):
  wpAnyLast Tryz.prog .any ops Q (L_factors_times.S A0 c0 l0 A1 c1 l1 g3) [] 8 (L_factors_times.tls false false false false false false) (L_factors_times.act A0 c0 l0 A1 c1 l1 a1 a2 g3 g6 undef undef undef undef undef undef) W:=by
 subst hops;exact L_factors_times.walk hr0 hc0 hr1 hc1 hl0 hl1 hfin 6 false false false false false [2,4,10] undef undef undef undef undef W (by simp[L_factors_times.ok]) F
end
def L_factors_times.T1:Bool×List (List Nat×List Nat):=(true,[([],[]),([0],[0]),([1],[1]),([],[]),([3],[3]),([2,4,2],[2,4]),([],[]),([6],[6]),([7,5],[7]),([],[]),([9],[9]),([8,10,8],[8,10]),([5,11],[5,11]),([12,11,0,1,2,3,4,5,6,7,8,9,10,11,12],[12])])
def L_factors_times.B1:List Nat:=[0,1,3,0,8,31,0,64,255,0,512,2047,4095,8191]
theorem L_factors_times.tab1:rtab .any (opsOf Tryz.f62 1)=L_factors_times.T1:=by kernel_rfl
theorem L_factors_times.bits1:waitsOk L_factors_times.T1.2 L_factors_times.B1=true:=by kernel_rfl
theorem L_factors_times.calls (A0:Option Addr) (c0:Nat) (l0:List Int) (A1:Option Addr) (c1:Nat) (l1:List Int) (a1 a2:Int) (r0 r1:List Int) (w:World) (hr0:Kd.C (Kd.int .i64) w A0 l0.length l0) (hc0:l0.length≤c0) (hr1:Kd.C (Kd.int .i64) w A1 l1.length l1) (hc1:l1.length≤c1) (h:L_factors_times.f l0 l1 a1 a2=some (r0,r1)):
  Calls Tryz.prog 62 #[.agg #[.slice A0 l0.length c0,.slice A1 l1.length c1],.int .i64 a1,.int .i64 a2] w fun e w'=>∃ v0_ v1_:Value,e= .returned (.agg #[v0_,v1_])∧Kd.R (Kd.int .i64) 3 w' w.heap.size (fun k_=>some k_≠v1_.ownBlock) v0_ r0∧Kd.R (Kd.int .i64) 3 w' w.heap.size (fun k_=>some k_≠v0_.ownBlock) v1_ r1∧Below w.heap.size w w':=by
 unfold L_factors_times.f at h
 by_cases hl0:l0.length<17592186044415
 case neg=>rw[if_neg hl0]at h;exact absurd h (by simp)
 rw[if_pos hl0]at h
 by_cases hl1:l1.length<17592186044415
 case neg=>rw[if_neg hl1]at h;exact absurd h (by simp)
 rw[if_pos hl1]at h;simp only[Option.some.injEq,Prod.mk.injEq]at h;obtain⟨rfl,rfl⟩:=h;have HR0:=m0 hr0;have HC0:=m0 hc0;have HR1:=m0 hr1;have HC1:=m0 hc1;have HL0:=m0 hl0;have HL1:=m0 hl1;clear hr0 hc0 hr1 hc1 hl0 hl1;have HB:=m0 (Below.refl w.heap.size w);go_enter Tryz.func62,Tryz.ntmps62
 try go_wp2_with (first|((with_reducible refine ga 3 rfl ?_);refine be 3 112 #[.slice A0 l0.length c0,.slice A1 l1.length c1] ?_;intro gb3 hg w6 hbox hb;have BK3:=m0 hbox;have GE3:=m0 ((by rw[hg];exact(below_size (HB.out)):w.heap.size≤gb3));replace HB:=m0 (below_step (HB.out) hb);clear hb hbox hg)|((with_reducible refine ga 6 rfl ?_);refine be 6 112 #[.slice none 0 0,.slice none 0 0] ?_;intro gb6 hg w7 hbox hb;have BK6:=m0 hbox;have GE6:=gw w hg;replace HB:=sb HB hb;have NB3_6:=nl BK3 hg;replace BK3:=bb BK3 hb;clear hb hbox hg))
 replace BK3:=bd BK3;replace BK6:=bd BK6;replace HB:=sd HB;refine start_ (n:=14) (S:=L_factors_times.S A0 c0 l0 A1 c1 l1 gb3) (ds:=[]) _ (by kernel_rfl) rfl rfl (L_factors_times.S_of BK3.out) (fun hH=>?_);refine with_tabW L_factors_times.tab1 L_factors_times.bits1 (fun HT_ HW_=>?_);generalize w7.drew=w8 at BK3 BK6 HB hH ⊢;refine pZ 0 (some 7) (bs 14 1) HT_ ?_;refine pZ 3 (some 10) (bs 14 9) HT_ ?_;refine pZ 6 (some 13) (bs 14 73) HT_ ?_;refine pZ 9 (some 16) (bs 14 585) HT_ ?_;refine take_ (i:=1) (N:=some 8) (v:=?_) (a':=?_) (bs 14 587) rfl rfl (tw HT_ HW_) (fun _ _ _ h_=>h_) (Or.inl ⟨by rfl,?_⟩) hH ?_ ?_;rotate_left
 ·rintro w' ⟨s0,s1⟩
  go_simp
  with_reducible rfl
 rotate_left
 ·exact pz
 refine take_ (i:=7) (N:=some 14) (v:=?_) (a':=?_) (bs 14 715) rfl rfl (tw HT_ HW_) (fun _ _ _ h_=>h_) (Or.inl ⟨by rfl,?_⟩) hH ?_ ?_;rotate_left
 ·rintro w' ⟨s0,s1⟩
  go_simp
  with_reducible rfl
 rotate_left
 ·exact pz
 refine L_factors_times.walk2 (by kernel_rfl) HR0.out HC0.out HR1.out HC1.out HL0.out HL1.out ?fin w8 ⟨HB.out,BK3.out,BK6.out,fun e_=>absurd e_ (by simp),fun e_=>absurd e_ (by simp),fun e_=>absurd e_ (by simp),fun e_=>absurd e_ (by simp),fun e_=>absurd e_ (by simp)⟩
 case fin=>
  clear HB BK3 BK6 hH;intro t9 t11 t15 t17 v0 v1 W hb k3 k6 hR0 hR1 hne;obtain⟨Ao0,co0,eo0⟩:=Kd.R_slice hR0;subst eo0;obtain⟨Ao1,co1,eo1⟩:=Kd.R_slice hR1;subst eo1;have HB:=m0 hb;have BK3:=m0 k3;have BK6:=m0 k6;have HO0:=m0 hR0;have HO1:=m0 hR1;have HN:=m0 hne;clear hb k3 k6 hR0 hR1 hne;unfold L_factors_times.act L_factors_times.tls;refine pZ 12 (some 19) (bs 14 8191) HT_ ?_;refine oneZ 13 (none) (bs 14 16383) (o1 HT_) fun K hK=>?_;obtain⟨hs15,hfs15⟩:=q0 BK6;obtain⟨hs17,hfs17⟩:=q1 BK6;refine skip_ (w1:=?_) (by rfl) rfl ?_ ?_;rotate_left
  ·go_simp
   rfl
  refine hK.out _ _ ⟨(cell_far (p:=⟨gb6,_,none⟩) NB3_6.out _).trans ((cell_far (p:=⟨gb6,_,none⟩) NB3_6.out _).trans (L_factors_times.S_of BK3.out).1),(cell_far (p:=⟨gb6,_,none⟩) NB3_6.out _).trans ((cell_far (p:=⟨gb6,_,none⟩) NB3_6.out _).trans (L_factors_times.S_of BK3.out).2)⟩ (fun hH=>?_);clear hK K;refine done_ (done_of HT_.out (by kernel_rfl)) ?_
  try go_wp2
  refine bodyPost_ret (results_cell_row rfl _ _ gb6 112 #[.slice Ao0 (l0++ [a1]).length co0,.slice Ao1 (l1++ [a2]).length co1] (0,0) _ rfl (by refine blk_put (cs:= #[.slice Ao0 (l0++ [a1]).length co0,.slice none 0 0]) ?_ 1 _ (by simp);refine blk_put (cs:= #[.slice none 0 0,.slice none 0 0]) ?_ 0 _ (by simp);exact BK6.out) Tryz.underlying112 rfl (by kernel_rfl)) rfl ?_;exact⟨_,_,by first|rfl|(simp;done)|(simp[*];done),Kd.R_mono (Kd.R_far (p:=⟨gb6,1,none⟩) (Kd.R_far (p:=⟨gb6,0,none⟩) (Kd.R_tight rfl HO0.out) (fun k hk e_=>(HO0.out.1 k hk.symm).2 e_) _) (fun k hk e_=>(HO0.out.1 k hk.symm).2 e_) _) (fun k hk=>HN.out k hk),Kd.R_mono (Kd.R_far (p:=⟨gb6,1,none⟩) (Kd.R_far (p:=⟨gb6,0,none⟩) (Kd.R_tight rfl HO1.out) (fun k hk e_=>(HO1.out.1 k hk.symm).2 e_) _) (fun k hk e_=>(HO1.out.1 k hk.symm).2 e_) _) (fun k hk e_=>HN.out k e_ hk),by repeat(first|(with_reducible first|exact HB.out|apply below_alloc|apply pw_below_drewN|apply below_drew1|refine below_set ?_ GE3.out|refine below_set ?_ GE6.out)|exact HB.out)⟩
end
end Go.Proofs.YteiafijbgjgiaaaGreat.A
