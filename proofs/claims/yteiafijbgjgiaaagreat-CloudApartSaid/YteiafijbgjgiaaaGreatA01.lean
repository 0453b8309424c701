/- Walks of the program's functions (printed, made shorter), each with what it computes. -/
import Derived.Test.YteiafijbgjgiaaaGreatB06
import Derived.Test.YteiafijbgjgiaaaGreatB05
import Derived.Test.YteiafijbgjgiaaaGreatB07
import Derived.Shelf.Abstract
namespace Go.Proofs.YteiafijbgjgiaaaGreat.A
set_option maxHeartbeats 8000000
set_option maxRecDepth 100000
open Go.RowKit Go.Proofs.YteiafijbgjgiaaaGreatW.PrintWords Go.Proofs.YteiafijbgjgiaaaGreatW.PrintLast Go.Proofs.YteiafijbgjgiaaaGreatW.PrintMore
attribute [local go_sem] max2_int min2_int max_two min_two max_three min_three max_four min_four
set_option linter.unusedVariables false
set_option linter.unusedSimpArgs false
section
theorem eqA40 (d:Nat) (w:World) (x0 y0:Int) (x1 y1:Int):
  (Op.equalIn (d+2) 40 (.agg #[.int .i64 x0,.int .i64 x1]) (.agg #[.int .i64 y0,.int .i64 y1])).run Tryz.prog w= .ok (x0==y0 && (x1==y1)) w:=by
 refine eqA_of Tryz.underlying40 (by kernel_rfl) ?_;refine eqf_cons (by rfl) (by go_simp;rfl) (by go_simp;rfl) (by go_simp) ?_;exact eqf_last (by rfl) (by go_simp;rfl) (by go_simp;rfl) (by go_simp)
end
section
def Lw_few.f (l0:List Int):Option (Bool):=some (decide ((l0.length:Int)≤26))
theorem Lw_few.calls (A0:Option Addr) (c0:Nat) (l0:List Int) (r:Bool) (w:World) (hr0:Kd.C (Kd.int .i64) w A0 l0.length l0) (hc0:l0.length≤c0) (H:Lw_few.f l0=some r):
  Calls Tryz.prog 8 #[.slice A0 l0.length c0] w fun e w'=>e= .returned (.bool r)∧Drawn0 w w':=by
 have HR0:=m0 hr0;have HC0:=m0 hc0;clear hr0 hc0;unfold Lw_few.f at H;obtain rfl:=Option.some.inj H;go_enter Tryz.func8,Tryz.ntmps8
 go_wp2
 go_ret
 exact⟨rz,by repeat(first|exact Drawn0.refl _|apply Drawn0.step)⟩
end
section
def Bs_Within.f (a0:Int) (a1:Int) (a2:Int):Option (Bool):=if a1≤a0 then(some (decide (a0≤a2)))else(some false)
theorem Bs_Within.calls (a0:Int) (a1:Int) (a2:Int) (r:Bool) (w:World) (H:Bs_Within.f a0 a1 a2=some r):
  Calls Tryz.prog 11 #[.int .i64 a0,.int .i64 a1,.int .i64 a2] w fun e w'=>e= .returned (.bool r)∧Drawn0 w w':=by
 unfold Bs_Within.f at H
 by_cases c4:a1≤a0
 ·rw [if_pos c4]at H;have c4b0:=decide_eq_true c4;clear c4;obtain rfl:=Option.some.inj H;go_enter Tryz.func11,Tryz.ntmps11
  go_wp2
  go_ret
  exact⟨rz,by repeat(first|exact Drawn0.refl _|apply Drawn0.step)⟩
 ·rw [if_neg c4]at H;have c4b0:=decide_eq_false c4;clear c4;obtain rfl:=Option.some.inj H;go_enter Tryz.func11,Tryz.ntmps11
  go_wp2
  go_ret
  exact⟨rz,by repeat(first|exact Drawn0.refl _|apply Drawn0.step)⟩
end
section
def Rf_CheckProfile.l0:Nat→List Int→Int→Option (Int×Int)
  |0,_,_=>none
  |k+1,x0,x4=>if x4<(x0.length:Int)then(if 0≤x4 then((Bs_Within.f (rd x0 x4) 0 10000).bind fun t387=>(if t387=true then(Rf_CheckProfile.l0 k x0 (wrap64 (x4+1)))else(some (x4,2))))else(none))else(some (0,0))
def Rf_CheckProfile.f (k:Nat) (l0:List Int):Option (Int×Int):=if(l0.length:Int)=0 then(some (0,10))else(if(l0.length:Int)>24 then(some (0,8))else(Rf_CheckProfile.l0 k l0 0))
theorem Rf_CheckProfile.mono_l:∀ k,(∀ y0 y1,LeO (Rf_CheckProfile.l0 k y0 y1) (Rf_CheckProfile.l0 (k+1) y0 y1))
  |0=>fun _ _ r h=>by simp[Rf_CheckProfile.l0]at h
  | k + 1=>by
    have ih0:=Rf_CheckProfile.mono_l k
    · intro y0 y1;unfold Rf_CheckProfile.l0
      repeat' with_reducible first
        |exact ih0 ..
        |exact LeO.refl ..
        |exact LeO.none ..
        |refine LeO.ite ?_ ?_
        |refine LeO.bind ?_ (fun _=>?_)
theorem Rf_CheckProfile.mono:∀ a0 k,LeO (Rf_CheckProfile.f k a0) (Rf_CheckProfile.f (k+1) a0):=by
  intro a0 k;have ih0:=Rf_CheckProfile.mono_l k;unfold Rf_CheckProfile.f
  repeat' with_reducible first
    |exact ih0 ..
    |exact LeO.refl ..
    |exact LeO.none ..
    |refine LeO.ite ?_ ?_
    |refine LeO.bind ?_ (fun _=>?_)
theorem Rf_CheckProfile.calls (k:Nat) (A0:Option Addr) (c0:Nat) (l0:List Int) (r1:Int) (r2:Int) (w:World) (hr0:Kd.C (Kd.int .i64) w A0 l0.length l0) (hc0:l0.length≤c0) (H:Rf_CheckProfile.f k l0=some (r1,r2)):
    Calls Tryz.prog 44 #[.slice A0 l0.length c0] w fun e w'=>e= .returned (.tuple #[.int .i64 r1,.int .i64 r2])∧Drawn0 w w':=by
  have HR0:=m0 hr0;have HC0:=m0 hc0;clear hr0 hc0;unfold Rf_CheckProfile.f at H
  by_cases c2:(l0.length:Int)=0
  · rw[if_pos c2]at H;have c2b0:=beq_iff_eq.mpr c2;have c2b1:=bne_eq_false_iff_eq.mpr c2;clear c2;simp only[Option.some.injEq,Prod.mk.injEq]at H;obtain⟨rfl,rfl⟩:=H;go_enter Tryz.func44,Tryz.ntmps44
    go_wp2
    go_ret2
    exact⟨rz,by repeat(first|exact Drawn0.refl _|apply Drawn0.step)⟩
  · rw [if_neg c2]at H;have c2b0:=beq_eq_false_iff_ne.mpr c2;have c2b1:=bne_iff_ne.mpr c2;have c2b2:¬ (l0=[]):=fun h_=>c2 (by rw[h_];rfl)
    by_cases c3:(l0.length:Int)>24
    · rw[if_pos c3]at H;have c3b0:=decide_eq_true c3;have c3b1:decide (24<l0.length)=true:=decide_eq_true (by omega);clear c3;simp only[Option.some.injEq,Prod.mk.injEq]at H;obtain⟨rfl,rfl⟩:=H;go_enter Tryz.func44,Tryz.ntmps44
      go_wp2
      go_ret2
      exact⟨rz,by repeat(first|exact Drawn0.refl _|apply Drawn0.step)⟩
    · rw [if_neg c3]at H;have c3b0:=decide_eq_false c3;have c3b1:decide (24<l0.length)=false:=decide_eq_false (by omega);clear c3;have H':=m0 H;clear H;go_enter Tryz.func44,Tryz.ntmps44
      go_wp2
      go_loopg [4] k (fun kq v4 w'=>∃ (x4_1:Int),v4= .int .i64 x4_1∧Aside0 (Rf_CheckProfile.l0 kq l0 x4_1=some (r1,r2))∧Aside0 (kq≤k)∧Drawn0 w w')
      case atStart=>exact⟨(0),rz,H',⟨Nat.le_refl _⟩,by repeat(first|exact Drawn0.refl _|apply Drawn0.step)⟩
      case round=>
        clear H';obtain⟨x4_1,rfl,HA,HK1,⟨m1,rfl⟩⟩:=hrel
        cases gk with
        |zero=>exact absurd HA.out (by simp[Rf_CheckProfile.l0])
        | succ k1=>
          have H:=HA.out;clear HA;simp only[Rf_CheckProfile.l0]at H
          by_cases c4:x4_1<(l0.length:Int)
          · rw [if_pos c4]at H;have c4b0:=decide_eq_true c4;clear c4
            by_cases c5:0≤x4_1
            · rw[if_pos c5]at H;have c5b0:=decide_eq_true c5;clear c5;replace H:=oa H;obtain⟨t387,A6,H⟩:=H;(try dsimp only at H)
              by_cases c7:t387=true
              · subst c7;rw[if_pos rfl]at H;have H':=m0 H;clear H;have p386:0≤(x4_1:Int):=od;have q386:x4_1<(l0.length:Int):=od;obtain⟨ad386,e386,hx386_0⟩:=Kd.at_int HR0.out x4_1 p386 q386
                cases e386
                replace p386:=eq_true p386;replace q386:=eq_true q386
                go_wp2_with (first|((with_reducible refine gc 11 rfl ?_);refine gl (some 21) Tryz.func11 #[.int .i64 (rd l0 x4_1),.int .i64 0,.int .i64 10000] ?_;(with_reducible refine(Bs_Within.calls (rd l0 x4_1) 0 10000 true _ A6.out).mono ?_);rintro e w' ⟨rfl,⟨nd,rfl⟩⟩;refine⟨_,rfl,?_⟩))
                go_roundg k1
                case measure=>have:=HK1.out;omega
                case rel=>exact⟨(wrap64 (x4_1+1)),rz,H',⟨by have:=HK1.out;omega⟩,by repeat(first|exact Drawn0.refl _|apply Drawn0.step)⟩
              · replace c7:=Bool.eq_false_iff.mpr c7;subst c7;rw[if_neg (show ¬ (false=true) by decide)]at H;simp only[Option.some.injEq,Prod.mk.injEq]at H;obtain⟨rfl,rfl⟩:=H;have p386:0≤(x4_1:Int):=od;have q386:x4_1<(l0.length:Int):=od;obtain⟨ad386,e386,hx386_0⟩:=Kd.at_int HR0.out x4_1 p386 q386
                cases e386
                replace p386:=eq_true p386;replace q386:=eq_true q386
                go_wp2_with (first|((with_reducible refine gc 11 rfl ?_);refine gl (some 21) Tryz.func11 #[.int .i64 (rd l0 x4_1),.int .i64 0,.int .i64 10000] ?_;(with_reducible refine(Bs_Within.calls (rd l0 x4_1) 0 10000 false _ A6.out).mono ?_);rintro e w' ⟨rfl,⟨nd,rfl⟩⟩;refine⟨_,rfl,?_⟩))
                go_ret2
                exact⟨rz,by repeat(first|exact Drawn0.refl _|apply Drawn0.step)⟩
            · rw[if_neg c5]at H;exact absurd H (by simp)
          · rw[if_neg c4]at H;have c4b0:=decide_eq_false c4;clear c4;simp only[Option.some.injEq,Prod.mk.injEq]at H;obtain⟨rfl,rfl⟩:=H
            go_wp2
            go_ret2
            exact⟨rz,by repeat(first|exact Drawn0.refl _|apply Drawn0.step)⟩
end
section
def Rf_ProfileErr.f (k:Nat) (l0:List Int):Option (Int):=(Rf_CheckProfile.f k l0).bind fun bt388=>(some bt388.2)
theorem Rf_ProfileErr.mono:∀ a0 k,LeO (Rf_ProfileErr.f k a0) (Rf_ProfileErr.f (k+1) a0):=by
 intro a0 k;unfold Rf_ProfileErr.f
 repeat' with_reducible first
  |exact Rf_CheckProfile.mono ..
  |exact LeO.refl ..
  |exact LeO.none ..
  |refine LeO.ite ?_ ?_
  |refine LeO.bind ?_ (fun _=>?_)
theorem Rf_ProfileErr.calls (k:Nat) (A0:Option Addr) (c0:Nat) (l0:List Int) (r:Int) (w:World) (hr0:Kd.C (Kd.int .i64) w A0 l0.length l0) (hc0:l0.length≤c0) (H:Rf_ProfileErr.f k l0=some r):
  Calls Tryz.prog 9 #[.slice A0 l0.length c0] w fun e w'=>e= .returned (.int .i64 r)∧Drawn0 w w':=by
 have HR0:=m0 hr0;have HC0:=m0 hc0;clear hr0 hc0;unfold Rf_ProfileErr.f at H;replace H:=oa H;obtain⟨⟨t388,t389⟩,A2,H⟩:=H;(try dsimp only at H);obtain rfl:=Option.some.inj H;go_enter Tryz.func9,Tryz.ntmps9
 go_wp2_with (first|((with_reducible refine gc 44 rfl ?_);refine gl (some 7) Tryz.func44 #[.slice A0 l0.length c0] ?_;(with_reducible refine(Rf_CheckProfile.calls k _ _ l0 t388 t389 _ ?side1 ?side2 A2.out).mono ?_);(case side1=>repeat(first|exact HR0.out|(with_reducible refine Kd.C_alloc ?_ _)|(with_reducible refine Kd.C_drewN ?_ _)|(with_reducible refine Kd.C_drew ?_)));(case side2=>exact HC0.out);rintro e w' ⟨rfl,⟨nd,rfl⟩⟩;refine⟨_,rfl,?_⟩))
 go_ret
 exact⟨rz,by repeat(first|exact Drawn0.refl _|apply Drawn0.step)⟩
end
section
def Rf_RuleErr.f (a0_0:Int) (a0_1:Int) (a0_2:Int):Option (Int):=(Bs_Within.f a0_0 1 10000).bind fun t391=>(if t391=true then((Bs_Within.f a0_1 0 24).bind fun t392=>(if t392=true then((Bs_Within.f a0_2 1 24).bind fun t393=>(if t393=true then(some 0)else(some 2)))else(some 2)))else(some 2))
theorem Rf_RuleErr.calls (a0_0:Int) (a0_1:Int) (a0_2:Int) (r:Int) (w:World) (H:Rf_RuleErr.f a0_0 a0_1 a0_2=some r):
  Calls Tryz.prog 10 #[.agg #[.int .i64 a0_0,.int .i64 a0_1,.int .i64 a0_2]] w fun e w'=>e= .returned (.int .i64 r)∧Below w.heap.size w w':=by
 have hu26:=Tryz.underlying26;have HB:=m0 (Below.refl w.heap.size w);unfold Rf_RuleErr.f at H;replace H:=oa H;obtain⟨t391,A2,H⟩:=H;(try dsimp only at H)
 by_cases c3:t391=true
 ·subst c3;rw[if_pos rfl]at H;replace H:=oa H;obtain⟨t392,A4,H⟩:=H;(try dsimp only at H)
  by_cases c5:t392=true
  ·subst c5;rw[if_pos rfl]at H;replace H:=oa H;obtain⟨t393,A6,H⟩:=H;(try dsimp only at H)
   by_cases c7:t393=true
   ·subst c7;rw[if_pos rfl]at H;obtain rfl:=Option.some.inj H;go_enter Tryz.func10,Tryz.ntmps10
    go_wp2_with (first|((with_reducible refine ga 1 rfl ?_);refine be 1 26 #[.int .i64 a0_0,.int .i64 a0_1,.int .i64 a0_2] ?_;intro gb390 hg w8 hbox hb;have BK390:=m0 hbox;have GE390:=gw w hg;replace HB:=sb HB hb;clear hb hbox hg;obtain⟨_,_,_,_,_,_⟩:=b3 BK390)|((with_reducible refine gc 11 rfl ?_);refine gl (some 5) Tryz.func11 #[.int .i64 a0_0,.int .i64 1,.int .i64 10000] ?_;(with_reducible refine(Bs_Within.calls a0_0 1 10000 true _ A2.out).mono ?_);rintro e w' ⟨rfl,⟨nd,rfl⟩⟩;refine⟨_,rfl,?_⟩)|(go_at_call 11;(with_reducible refine(Bs_Within.calls a0_1 0 24 true _ A4.out).mono ?_);rintro e w' ⟨rfl,⟨nd,rfl⟩⟩)|(go_at_call 11;(with_reducible refine(Bs_Within.calls a0_2 1 24 true _ A6.out).mono ?_);rintro e w' ⟨rfl,⟨nd,rfl⟩⟩))
    go_ret
    exact ez
   ·replace c7:=Bool.eq_false_iff.mpr c7;subst c7;rw[if_neg (show ¬ (false=true) by decide)]at H;obtain rfl:=Option.some.inj H;go_enter Tryz.func10,Tryz.ntmps10
    go_wp2_with (first|((with_reducible refine ga 1 rfl ?_);refine be 1 26 #[.int .i64 a0_0,.int .i64 a0_1,.int .i64 a0_2] ?_;intro gb390 hg w10 hbox hb;have BK390:=m0 hbox;have GE390:=gw w hg;replace HB:=sb HB hb;clear hb hbox hg;obtain⟨_,_,_,_,_,_⟩:=b3 BK390)|((with_reducible refine gc 11 rfl ?_);refine gl (some 5) Tryz.func11 #[.int .i64 a0_0,.int .i64 1,.int .i64 10000] ?_;(with_reducible refine(Bs_Within.calls a0_0 1 10000 true _ A2.out).mono ?_);rintro e w' ⟨rfl,⟨nd,rfl⟩⟩;refine⟨_,rfl,?_⟩)|(go_at_call 11;(with_reducible refine(Bs_Within.calls a0_1 0 24 true _ A4.out).mono ?_);rintro e w' ⟨rfl,⟨nd,rfl⟩⟩)|(go_at_call 11;(with_reducible refine(Bs_Within.calls a0_2 1 24 false _ A6.out).mono ?_);rintro e w' ⟨rfl,⟨nd,rfl⟩⟩))
    go_ret
    exact ez
  ·replace c5:=Bool.eq_false_iff.mpr c5;subst c5;rw[if_neg (show ¬ (false=true) by decide)]at H;obtain rfl:=Option.some.inj H;go_enter Tryz.func10,Tryz.ntmps10
   go_wp2_with (first|((with_reducible refine ga 1 rfl ?_);refine be 1 26 #[.int .i64 a0_0,.int .i64 a0_1,.int .i64 a0_2] ?_;intro gb390 hg w12 hbox hb;have BK390:=m0 hbox;have GE390:=gw w hg;replace HB:=sb HB hb;clear hb hbox hg;obtain⟨_,_,_,_,_,_⟩:=b3 BK390)|((with_reducible refine gc 11 rfl ?_);refine gl (some 5) Tryz.func11 #[.int .i64 a0_0,.int .i64 1,.int .i64 10000] ?_;(with_reducible refine(Bs_Within.calls a0_0 1 10000 true _ A2.out).mono ?_);rintro e w' ⟨rfl,⟨nd,rfl⟩⟩;refine⟨_,rfl,?_⟩)|(go_at_call 11;(with_reducible refine(Bs_Within.calls a0_1 0 24 false _ A4.out).mono ?_);rintro e w' ⟨rfl,⟨nd,rfl⟩⟩))
   go_ret
   exact ez
 ·replace c3:=Bool.eq_false_iff.mpr c3;subst c3;rw[if_neg (show ¬ (false=true) by decide)]at H;obtain rfl:=Option.some.inj H;go_enter Tryz.func10,Tryz.ntmps10
  go_wp2_with (first|((with_reducible refine ga 1 rfl ?_);refine be 1 26 #[.int .i64 a0_0,.int .i64 a0_1,.int .i64 a0_2] ?_;intro gb390 hg w14 hbox hb;have BK390:=m0 hbox;have GE390:=gw w hg;replace HB:=sb HB hb;clear hb hbox hg;obtain⟨_,_,_,_,_,_⟩:=b3 BK390)|((with_reducible refine gc 11 rfl ?_);refine gl (some 5) Tryz.func11 #[.int .i64 a0_0,.int .i64 1,.int .i64 10000] ?_;(with_reducible refine(Bs_Within.calls a0_0 1 10000 false _ A2.out).mono ?_);rintro e w' ⟨rfl,⟨nd,rfl⟩⟩;refine⟨_,rfl,?_⟩))
  go_ret
  exact ez
end
section
def L_isGates.f (a0:Int):Option (Bool):=(L_within.f a0 0 24).bind fun t394=>(some t394)
theorem L_isGates.calls (a0:Int) (r:Bool) (w:World) (H:L_isGates.f a0=some r):
  Calls Tryz.prog 47 #[.int .i64 a0] w fun e w'=>e= .returned (.bool r)∧Drawn0 w w':=by
 unfold L_isGates.f at H;replace H:=oa H;obtain⟨t394,A2,H⟩:=H;(try dsimp only at H);obtain rfl:=Option.some.inj H;go_enter Tryz.func47,Tryz.ntmps47
 go_wp2_with (first|((with_reducible refine gc 46 rfl ?_);refine gl (some 4) Tryz.func46 #[.int .i64 a0,.int .i64 0,.int .i64 24] ?_;(with_reducible refine(L_within.calls a0 0 24 t394 _ A2.out).mono ?_);rintro e w' ⟨rfl,⟨nd,rfl⟩⟩;refine⟨_,rfl,?_⟩))
 go_ret
 exact⟨rz,by repeat(first|exact Drawn0.refl _|apply Drawn0.step)⟩
end
section
def L_sight_isBlind.f (k:Nat) (l0_0:List Int) (a0_1:Int) (a0_2:Int) (a0_3:Int) (a0_4:Int) (a1:Int):Option (Bool):=if 0≤a1 then(if a1≤(l0_0.length:Int)then((L_profile_sum.f k (l0_0.drop (a1:Int).toNat)).bind fun t397=>(if a1<a0_1 then(some true)else(if a1<(l0_0.length:Int)then(if(rd l0_0 a1)≥a0_2 then(some true)else((L_profile_sum.f k l0_0).bind fun t399=>(some (decide ((wrap64 (t397*a0_4))<(wrap64 (a0_3*t399)))))))else(none))))else(none))else(none)
theorem L_sight_isBlind.mono:∀ a0 a1 a2 a3 a4 a5 k,LeO (L_sight_isBlind.f k a0 a1 a2 a3 a4 a5) (L_sight_isBlind.f (k+1) a0 a1 a2 a3 a4 a5):=by
 intro a0 a1 a2 a3 a4 a5 k;unfold L_sight_isBlind.f
 repeat' with_reducible first
  |exact L_profile_sum.mono ..
  |exact LeO.refl ..
  |exact LeO.none ..
  |refine LeO.ite ?_ ?_
  |refine LeO.bind ?_ (fun _=>?_)
def L_sight_isBlind.T2:Bool×List (List Nat×List Nat):=(true,[([],[]),([],[]),([1],[1]),([2],[2]),([0,3],[0,3]),([4],[4]),([5],[5]),([6,5],[5,6]),([5],[5]),([7,8,5],[5,7,8]),([9,5],[5,9]),([5],[5]),([11,5],[5,11]),([12,5],[5,12]),([10,13,5],[5,10,13]),([5,14],[5,14]),([15,5],[15]),([16],[16]),([16],[16]),([18,16],[16,18]),([19,16],[16,19]),([20,16],[16,20]),([17,21,16],[16,17,21]),([16],[16]),([23,16],[16,23]),([24,16],[16,24]),([25,16],[16,25]),([16],[16]),([27,16],[16,27]),([28,16,16],[16,28]),([26,29,16],[16,26,29]),([22,30,16],[16,22,30]),([16,31],[16,31]),([32,29,0,1,2,3,4,5,6,7,8,9,10,11,12,13,14,15,16,17,18,19,20,21,22,23,24,25,26,27,28,29,30,31,32],[32])])
def L_sight_isBlind.B2:List Nat:=[0,0,2,6,15,31,63,127,63,511,1023,63,2111,6207,16383,32767,65535,131071,131071,393215,917503,1966079,4194303,131071,8519679,25296895,58851327,131071,134348799,402784255,1065484287,2147483647,4294967295,8589934591]
theorem L_sight_isBlind.tab2:rtab .any (opsOf Tryz.f58 2)=L_sight_isBlind.T2:=by kernel_rfl
theorem L_sight_isBlind.bits2:waitsOk L_sight_isBlind.T2.2 L_sight_isBlind.B2=true:=by kernel_rfl
theorem L_sight_isBlind.calls (k:Nat) (A0_0:Option Addr) (c0_0:Nat) (l0_0:List Int) (a0_1:Int) (a0_2:Int) (a0_3:Int) (a0_4:Int) (a1:Int) (r:Bool) (w:World) (hr0_0:Kd.C (Kd.int .i64) w A0_0 l0_0.length l0_0) (hc0_0:l0_0.length≤c0_0) (H:L_sight_isBlind.f k l0_0 a0_1 a0_2 a0_3 a0_4 a1=some r):
  Calls Tryz.prog 58 #[.agg #[.slice A0_0 l0_0.length c0_0,.int .i64 a0_1,.int .i64 a0_2,.int .i64 a0_3,.int .i64 a0_4],.int .i64 a1] w fun e w'=>e= .returned (.bool r)∧Below w.heap.size w w':=by
 have hu107:=Tryz.underlying107;have HR0_0:=m0 hr0_0;have HC0_0:=m0 hc0_0;clear hr0_0 hc0_0;have HB:=m0 (Below.refl w.heap.size w);unfold L_sight_isBlind.f at H
 by_cases c3:0≤a1
 ·rw [if_pos c3]at H;have c3b0:=eq_true c3;have c3b1:=decide_eq_true c3;clear c3
  by_cases c4:a1≤(l0_0.length:Int)
  ·rw [if_pos c4]at H;have c4b0:=eq_true c4;have c4b1:=decide_eq_true c4;clear c4;replace H:=oa H;obtain⟨t397,A5,H⟩:=H;(try dsimp only at H)
   by_cases c6:a1<a0_1
   ·rw [if_pos c6]at H;have c6b0:=decide_eq_true c6;clear c6;obtain rfl:=Option.some.inj H;go_enter Tryz.func58,Tryz.ntmps58
    try go_wp2_with (first|((with_reducible refine ga 2 rfl ?_);refine be 2 107 #[.slice A0_0 l0_0.length c0_0,.int .i64 a0_1,.int .i64 a0_2,.int .i64 a0_3,.int .i64 a0_4] ?_;intro gb395 hg w7 hbox hb;have BK395:=m0 hbox;have GE395:=gw w hg;replace HB:=sb HB hb;clear hb hbox hg;obtain⟨_,_,_,_,_,_,_,_,_,_⟩:=b5 BK395;obtain⟨i09,hi09,_,hsz9,_⟩:=info_parts info3;obtain⟨A9,hcut9,hA9,hC9⟩:=print_drop_of (P:=Tryz.prog) (Value.int .i64) 0 93 3 .i64 Tryz.underlying93 hi09 hsz9 A0_0 c0_0 l0_0 a1 (od) (od) HC0_0.out;have HR396:=m0 (Kd.C_of_reads (h1:=fun _=>rfl) (hA9 _ (Kd.reads_of_C HR0_0.out)));have HC396:=m0 hC9;clear hA9 hC9 hi09 hsz9)|((with_reducible refine gc 57 rfl ?_);refine goesL_ (some 10) rfl rfl Tryz.func57 (by kernel_rfl) rfl #[.slice A9 (l0_0.drop (a1:Int).toNat).length (c0_0-a1.toNat)] rfl (by(try simp only[List.map_toArray,List.map_cons,List.map_nil]);first|done|(rw[show (l0_0.drop (a1:Int).toNat).length=(l0_0.length-a1.toNat)from List.length_drop]<;>rfl)|rfl|(simp only[List.length_drop,List.length_take];rfl)) ?_;(with_reducible refine(L_profile_sum.calls k _ _ (l0_0.drop (a1:Int).toNat) t397 _ ?side1 ?side2 A5.out).mono ?_);(case side1=>exact cb HR396 HB);(case side2=>exact HC396.out);rintro e w' ⟨rfl,⟨nd,rfl⟩⟩;refine⟨_,rfl,?_⟩))
    (try(rw[drewN_self w7];generalize hq_:World.drewN w7 _=w7;replace BK395:=gd BK395 hq_;replace HB:=gs HB hq_;clear hq_))
    replace BK395:=bd BK395;replace HB:=sd HB;refine start_ (n:=34) (S:=fun w'=>w'.cell? ⟨gb395,0,none⟩=some (.slice A0_0 l0_0.length c0_0)∧w'.cell? ⟨gb395,1,none⟩=some (.int .i64 a0_1)∧w'.cell? ⟨gb395,2,none⟩=some (.int .i64 a0_2)∧w'.cell? ⟨gb395,3,none⟩=some (.int .i64 a0_3)∧w'.cell? ⟨gb395,4,none⟩=some (.int .i64 a0_4)) (ds:=[]) _ (by kernel_rfl) rfl rfl cz (fun hH=>?_);refine with_tabW L_sight_isBlind.tab2 L_sight_isBlind.bits2 (fun HT_ HW_=>?_);generalize w7.drew=w10 at BK395 HB hH ⊢;refine pZ 0 (some 11) (bs 34 1) HT_ ?_;refine pZ 1 (some 12) (bs 34 3) HT_ ?_;refine pZ 2 (some 13) (bs 34 7) HT_ ?_;refine takeZ 3 (some 14) (bs 34 15) (tw HT_ HW_) hH ?_;refine pZ 4 (some 15) (bs 34 31) HT_ ?_;refine pZ 5 (some 16) (bs 34 63) HT_ ?_;refine pure_ (i:=6) (N:=some 17) (v:=undef) (a':=?_) (bs 34 127) rfl rfl (any_of HT_.out (by kernel_rfl)) (fun _ _ _ h=>h) (Or.inr ⟨by rfl,rfl⟩) ?_ ?_;rotate_left
    ·exact pz
    refine pure_ (i:=7) (N:=some 18) (v:=undef) (a':=?_) (bs 34 255) rfl rfl (any_of HT_.out (by kernel_rfl)) (fun _ _ _ h=>h) (Or.inr ⟨by rfl,rfl⟩) ?_ ?_;rotate_left
    ·exact pz
    refine pure_ (i:=8) (N:=some 19) (v:=undef) (a':=?_) (bs 34 511) rfl rfl (any_of HT_.out (by kernel_rfl)) (fun _ _ _ h=>h) (Or.inr ⟨by rfl,rfl⟩) ?_ ?_;rotate_left
    ·exact pz
    refine pure_ (i:=9) (N:=some 20) (v:=undef) (a':=?_) (bs 34 1023) rfl rfl (any_of HT_.out (by kernel_rfl)) (fun _ _ _ h=>h) (Or.inr ⟨by rfl,rfl⟩) ?_ ?_;rotate_left
    ·exact pz
    refine pure_ (i:=10) (N:=some 21) (v:=undef) (a':=?_) (bs 34 2047) rfl rfl (any_of HT_.out (by kernel_rfl)) (fun _ _ _ h=>h) (Or.inr ⟨by rfl,rfl⟩) ?_ ?_;rotate_left
    ·exact pz
    refine pure_ (i:=11) (N:=some 22) (v:=undef) (a':=?_) (bs 34 4095) rfl rfl (any_of HT_.out (by kernel_rfl)) (fun _ _ _ h=>h) (Or.inr ⟨by rfl,rfl⟩) ?_ ?_;rotate_left
    ·exact pz
    refine pure_ (i:=12) (N:=some 23) (v:=undef) (a':=?_) (bs 34 8191) rfl rfl (any_of HT_.out (by kernel_rfl)) (fun _ _ _ h=>h) (Or.inr ⟨by rfl,rfl⟩) ?_ ?_;rotate_left
    ·exact pz
    refine pure_ (i:=13) (N:=some 24) (v:=undef) (a':=?_) (bs 34 16383) rfl rfl (any_of HT_.out (by kernel_rfl)) (fun _ _ _ h=>h) (Or.inr ⟨by rfl,rfl⟩) ?_ ?_;rotate_left
    ·exact pz
    refine pure_ (i:=14) (N:=some 25) (v:=undef) (a':=?_) (bs 34 32767) rfl rfl (any_of HT_.out (by kernel_rfl)) (fun _ _ _ h=>h) (Or.inr ⟨by rfl,rfl⟩) ?_ ?_;rotate_left
    ·exact pz
    refine pZ 15 (some 26) (bs 34 65535) HT_ ?_;refine pZ 16 (some 27) (bs 34 131071) HT_ ?_;refine pure_ (i:=17) (N:=some 28) (v:=undef) (a':=?_) (bs 34 262143) rfl rfl (any_of HT_.out (by kernel_rfl)) (fun _ _ _ h=>h) (Or.inr ⟨by rfl,rfl⟩) ?_ ?_;rotate_left
    ·exact pz
    refine pure_ (i:=18) (N:=some 29) (v:=undef) (a':=?_) (bs 34 524287) rfl rfl (any_of HT_.out (by kernel_rfl)) (fun _ _ _ h=>h) (Or.inr ⟨by rfl,rfl⟩) ?_ ?_;rotate_left
    ·exact pz
    refine pure_ (i:=19) (N:=some 30) (v:=undef) (a':=?_) (bs 34 1048575) rfl rfl (any_of HT_.out (by kernel_rfl)) (fun _ _ _ h=>h) (Or.inr ⟨by rfl,rfl⟩) ?_ ?_;rotate_left
    ·exact pz
    refine pure_ (i:=20) (N:=some 31) (v:=undef) (a':=?_) (bs 34 2097151) rfl rfl (any_of HT_.out (by kernel_rfl)) (fun _ _ _ h=>h) (Or.inr ⟨by rfl,rfl⟩) ?_ ?_;rotate_left
    ·exact pz
    refine pure_ (i:=21) (N:=some 32) (v:=undef) (a':=?_) (bs 34 4194303) rfl rfl (any_of HT_.out (by kernel_rfl)) (fun _ _ _ h=>h) (Or.inr ⟨by rfl,rfl⟩) ?_ ?_;rotate_left
    ·exact pz
    refine pure_ (i:=22) (N:=some 33) (v:=undef) (a':=?_) (bs 34 8388607) rfl rfl (any_of HT_.out (by kernel_rfl)) (fun _ _ _ h=>h) (Or.inr ⟨by rfl,rfl⟩) ?_ ?_;rotate_left
    ·exact pz
    refine pure_ (i:=23) (N:=some 34) (v:=undef) (a':=?_) (bs 34 16777215) rfl rfl (any_of HT_.out (by kernel_rfl)) (fun _ _ _ h=>h) (Or.inr ⟨by rfl,rfl⟩) ?_ ?_;rotate_left
    ·exact pz
    refine pure_ (i:=24) (N:=some 35) (v:=undef) (a':=?_) (bs 34 33554431) rfl rfl (any_of HT_.out (by kernel_rfl)) (fun _ _ _ h=>h) (Or.inr ⟨by rfl,rfl⟩) ?_ ?_;rotate_left
    ·exact pz
    refine pure_ (i:=25) (N:=some 36) (v:=undef) (a':=?_) (bs 34 67108863) rfl rfl (any_of HT_.out (by kernel_rfl)) (fun _ _ _ h=>h) (Or.inr ⟨by rfl,rfl⟩) ?_ ?_;rotate_left
    ·exact pz
    refine pure_ (i:=26) (N:=some 37) (v:=undef) (a':=?_) (bs 34 134217727) rfl rfl (any_of HT_.out (by kernel_rfl)) (fun _ _ _ h=>h) (Or.inr ⟨by rfl,rfl⟩) ?_ ?_;rotate_left
    ·exact pz
    refine pure_ (i:=27) (N:=some 38) (v:=undef) (a':=?_) (bs 34 268435455) rfl rfl (any_of HT_.out (by kernel_rfl)) (fun _ _ _ h=>h) (Or.inr ⟨by rfl,rfl⟩) ?_ ?_;rotate_left
    ·exact pz
    refine pure_ (i:=28) (N:=some 39) (v:=undef) (a':=?_) (bs 34 536870911) rfl rfl (any_of HT_.out (by kernel_rfl)) (fun _ _ _ h=>h) (Or.inr ⟨by rfl,rfl⟩) ?_ ?_;rotate_left
    ·exact pz
    refine pure_ (i:=29) (N:=some 40) (v:=undef) (a':=?_) (bs 34 1073741823) rfl rfl (any_of HT_.out (by kernel_rfl)) (fun _ _ _ h=>h) (Or.inr ⟨by rfl,rfl⟩) ?_ ?_;rotate_left
    ·exact pz
    refine pure_ (i:=30) (N:=some 41) (v:=undef) (a':=?_) (bs 34 2147483647) rfl rfl (any_of HT_.out (by kernel_rfl)) (fun _ _ _ h=>h) (Or.inr ⟨by rfl,rfl⟩) ?_ ?_;rotate_left
    ·exact pz
    refine pure_ (i:=31) (N:=some 42) (v:=undef) (a':=?_) (bs 34 4294967295) rfl rfl (any_of HT_.out (by kernel_rfl)) (fun _ _ _ h=>h) (Or.inr ⟨by rfl,rfl⟩) ?_ ?_;rotate_left
    ·exact pz
    refine pZ 32 (some 43) (bs 34 8589934591) HT_ ?_;refine pZ 33 (some 4) (bs 34 17179869183) HT_ ?_;refine done_ (done_of HT_.out (by kernel_rfl)) ?_
    try go_wp2
    go_ret
    exact ez
   ·rw [if_neg c6]at H;have c6b0:=decide_eq_false c6;clear c6
    by_cases c11:a1<(l0_0.length:Int)
    ·rw [if_pos c11]at H;have c11b0:=decide_eq_true c11;clear c11
     by_cases c12:(rd l0_0 a1)≥a0_2
     ·rw [if_pos c12]at H;have c12b0:=decide_eq_true c12;clear c12;obtain rfl:=Option.some.inj H;go_enter Tryz.func58,Tryz.ntmps58
      try go_wp2_with (first|((with_reducible refine ga 2 rfl ?_);refine be 2 107 #[.slice A0_0 l0_0.length c0_0,.int .i64 a0_1,.int .i64 a0_2,.int .i64 a0_3,.int .i64 a0_4] ?_;intro gb395 hg w13 hbox hb;have BK395:=m0 hbox;have GE395:=gw w hg;replace HB:=sb HB hb;clear hb hbox hg;obtain⟨_,_,_,_,_,_,_,_,_,_⟩:=b5 BK395;obtain⟨i015,hi015,_,hsz15,_⟩:=info_parts info3;obtain⟨A15,hcut15,hA15,hC15⟩:=print_drop_of (P:=Tryz.prog) (Value.int .i64) 0 93 3 .i64 Tryz.underlying93 hi015 hsz15 A0_0 c0_0 l0_0 a1 (od) (od) HC0_0.out;have HR396:=m0 (Kd.C_of_reads (h1:=fun _=>rfl) (hA15 _ (Kd.reads_of_C HR0_0.out)));have HC396:=m0 hC15;clear hA15 hC15 hi015 hsz15)|((with_reducible refine gc 57 rfl ?_);refine goesL_ (some 10) rfl rfl Tryz.func57 (by kernel_rfl) rfl #[.slice A15 (l0_0.drop (a1:Int).toNat).length (c0_0-a1.toNat)] rfl (by(try simp only[List.map_toArray,List.map_cons,List.map_nil]);first|done|(rw[show (l0_0.drop (a1:Int).toNat).length=(l0_0.length-a1.toNat)from List.length_drop]<;>rfl)|rfl|(simp only[List.length_drop,List.length_take];rfl)) ?_;(with_reducible refine(L_profile_sum.calls k _ _ (l0_0.drop (a1:Int).toNat) t397 _ ?side1 ?side2 A5.out).mono ?_);(case side1=>exact cb HR396 HB);(case side2=>exact HC396.out);rintro e w' ⟨rfl,⟨nd,rfl⟩⟩;refine⟨_,rfl,?_⟩))
      (try(rw[drewN_self w13];generalize hq_:World.drewN w13 _=w13;replace BK395:=gd BK395 hq_;replace HB:=gs HB hq_;clear hq_))
      replace BK395:=bd BK395;replace HB:=sd HB;have p398:0≤(a1:Int):=od;have q398:a1<(l0_0.length:Int):=od;obtain⟨ad398,e398,hx398_0⟩:=Kd.at_int HR0_0.out a1 p398 q398;have hw398_0:=hx398_0
      cases e398
      replace hx398_0:=hc HB hx398_0;replace p398:=eq_true p398;replace q398:=eq_true q398;refine start_ (n:=34) (S:=fun w'=>w'.cell? ⟨gb395,0,none⟩=some (.slice (some ad398) l0_0.length c0_0)∧w'.cell? ⟨gb395,1,none⟩=some (.int .i64 a0_1)∧w'.cell? ⟨gb395,2,none⟩=some (.int .i64 a0_2)∧w'.cell? ⟨gb395,3,none⟩=some (.int .i64 a0_3)∧w'.cell? ⟨gb395,4,none⟩=some (.int .i64 a0_4)∧w'.cell? (ad398.add (a1).toNat)=some (.int .i64 (rd l0_0 a1))) (ds:=[]) _ (by kernel_rfl) rfl rfl ⟨(blk_cell BK395.out 0).trans rfl,(blk_cell BK395.out 1).trans rfl,(blk_cell BK395.out 2).trans rfl,(blk_cell BK395.out 3).trans rfl,(blk_cell BK395.out 4).trans rfl,((HB.out.cell (World.block_lt_of_cell? w _ hw398_0)).trans hw398_0)⟩ (fun hH=>?_);refine with_tabW L_sight_isBlind.tab2 L_sight_isBlind.bits2 (fun HT_ HW_=>?_);generalize w13.drew=w16 at BK395 HB hx398_0 hH ⊢;refine pZ 0 (some 11) (bs 34 1) HT_ ?_;refine pZ 1 (some 12) (bs 34 3) HT_ ?_;refine pZ 2 (some 13) (bs 34 7) HT_ ?_;refine takeZ 3 (some 14) (bs 34 15) (tw HT_ HW_) hH ?_;refine pZ 4 (some 15) (bs 34 31) HT_ ?_;refine pZ 5 (some 16) (bs 34 63) HT_ ?_;refine pZ 6 (some 17) (bs 34 127) HT_ ?_;refine pZ 8 (some 19) (bs 34 383) HT_ ?_;refine pZ 11 (some 22) (bs 34 2431) HT_ ?_;refine pZ 12 (some 23) (bs 34 6527) HT_ ?_;refine takeZ 7 (some 18) (bs 34 6655) (tw HT_ HW_) hH ?_;refine pZ 9 (some 20) (bs 34 7167) HT_ ?_;refine takeZ 10 (some 21) (bs 34 8191) (tw HT_ HW_) hH ?_;refine takeZ 13 (some 24) (bs 34 16383) (tw HT_ HW_) hH ?_;refine pZ 14 (some 25) (bs 34 32767) HT_ ?_;refine pZ 15 (some 26) (bs 34 65535) HT_ ?_;refine pZ 16 (some 27) (bs 34 131071) HT_ ?_;refine pure_ (i:=17) (N:=some 28) (v:=undef) (a':=?_) (bs 34 262143) rfl rfl (any_of HT_.out (by kernel_rfl)) (fun _ _ _ h=>h) (Or.inr ⟨by rfl,rfl⟩) ?_ ?_;rotate_left
      ·exact pz
      refine pure_ (i:=18) (N:=some 29) (v:=undef) (a':=?_) (bs 34 524287) rfl rfl (any_of HT_.out (by kernel_rfl)) (fun _ _ _ h=>h) (Or.inr ⟨by rfl,rfl⟩) ?_ ?_;rotate_left
      ·exact pz
      refine pure_ (i:=19) (N:=some 30) (v:=undef) (a':=?_) (bs 34 1048575) rfl rfl (any_of HT_.out (by kernel_rfl)) (fun _ _ _ h=>h) (Or.inr ⟨by rfl,rfl⟩) ?_ ?_;rotate_left
      ·exact pz
      refine pure_ (i:=20) (N:=some 31) (v:=undef) (a':=?_) (bs 34 2097151) rfl rfl (any_of HT_.out (by kernel_rfl)) (fun _ _ _ h=>h) (Or.inr ⟨by rfl,rfl⟩) ?_ ?_;rotate_left
      ·exact pz
      refine pure_ (i:=21) (N:=some 32) (v:=undef) (a':=?_) (bs 34 4194303) rfl rfl (any_of HT_.out (by kernel_rfl)) (fun _ _ _ h=>h) (Or.inr ⟨by rfl,rfl⟩) ?_ ?_;rotate_left
      ·exact pz
      refine pure_ (i:=22) (N:=some 33) (v:=undef) (a':=?_) (bs 34 8388607) rfl rfl (any_of HT_.out (by kernel_rfl)) (fun _ _ _ h=>h) (Or.inr ⟨by rfl,rfl⟩) ?_ ?_;rotate_left
      ·exact pz
      refine pure_ (i:=23) (N:=some 34) (v:=undef) (a':=?_) (bs 34 16777215) rfl rfl (any_of HT_.out (by kernel_rfl)) (fun _ _ _ h=>h) (Or.inr ⟨by rfl,rfl⟩) ?_ ?_;rotate_left
      ·exact pz
      refine pure_ (i:=24) (N:=some 35) (v:=undef) (a':=?_) (bs 34 33554431) rfl rfl (any_of HT_.out (by kernel_rfl)) (fun _ _ _ h=>h) (Or.inr ⟨by rfl,rfl⟩) ?_ ?_;rotate_left
      ·exact pz
      refine pure_ (i:=25) (N:=some 36) (v:=undef) (a':=?_) (bs 34 67108863) rfl rfl (any_of HT_.out (by kernel_rfl)) (fun _ _ _ h=>h) (Or.inr ⟨by rfl,rfl⟩) ?_ ?_;rotate_left
      ·exact pz
      refine pure_ (i:=26) (N:=some 37) (v:=undef) (a':=?_) (bs 34 134217727) rfl rfl (any_of HT_.out (by kernel_rfl)) (fun _ _ _ h=>h) (Or.inr ⟨by rfl,rfl⟩) ?_ ?_;rotate_left
      ·exact pz
      refine pure_ (i:=27) (N:=some 38) (v:=undef) (a':=?_) (bs 34 268435455) rfl rfl (any_of HT_.out (by kernel_rfl)) (fun _ _ _ h=>h) (Or.inr ⟨by rfl,rfl⟩) ?_ ?_;rotate_left
      ·exact pz
      refine pure_ (i:=28) (N:=some 39) (v:=undef) (a':=?_) (bs 34 536870911) rfl rfl (any_of HT_.out (by kernel_rfl)) (fun _ _ _ h=>h) (Or.inr ⟨by rfl,rfl⟩) ?_ ?_;rotate_left
      ·exact pz
      refine pure_ (i:=29) (N:=some 40) (v:=undef) (a':=?_) (bs 34 1073741823) rfl rfl (any_of HT_.out (by kernel_rfl)) (fun _ _ _ h=>h) (Or.inr ⟨by rfl,rfl⟩) ?_ ?_;rotate_left
      ·exact pz
      refine pure_ (i:=30) (N:=some 41) (v:=undef) (a':=?_) (bs 34 2147483647) rfl rfl (any_of HT_.out (by kernel_rfl)) (fun _ _ _ h=>h) (Or.inr ⟨by rfl,rfl⟩) ?_ ?_;rotate_left
      ·exact pz
      refine pure_ (i:=31) (N:=some 42) (v:=undef) (a':=?_) (bs 34 4294967295) rfl rfl (any_of HT_.out (by kernel_rfl)) (fun _ _ _ h=>h) (Or.inr ⟨by rfl,rfl⟩) ?_ ?_;rotate_left
      ·exact pz
      refine pZ 32 (some 43) (bs 34 8589934591) HT_ ?_;refine pZ 33 (some 4) (bs 34 17179869183) HT_ ?_;refine done_ (done_of HT_.out (by kernel_rfl)) ?_
      try go_wp2
      go_ret
      exact ez
     ·rw [if_neg c12]at H;have c12b0:=decide_eq_false c12;clear c12;replace H:=oa H;obtain⟨t399,A17,H⟩:=H;(try dsimp only at H);obtain rfl:=Option.some.inj H;go_enter Tryz.func58,Tryz.ntmps58
      try go_wp2_with (first|((with_reducible refine ga 2 rfl ?_);refine be 2 107 #[.slice A0_0 l0_0.length c0_0,.int .i64 a0_1,.int .i64 a0_2,.int .i64 a0_3,.int .i64 a0_4] ?_;intro gb395 hg w18 hbox hb;have BK395:=m0 hbox;have GE395:=gw w hg;replace HB:=sb HB hb;clear hb hbox hg;obtain⟨_,_,_,_,_,_,_,_,_,_⟩:=b5 BK395;obtain⟨i020,hi020,_,hsz20,_⟩:=info_parts info3;obtain⟨A20,hcut20,hA20,hC20⟩:=print_drop_of (P:=Tryz.prog) (Value.int .i64) 0 93 3 .i64 Tryz.underlying93 hi020 hsz20 A0_0 c0_0 l0_0 a1 (od) (od) HC0_0.out;have HR396:=m0 (Kd.C_of_reads (h1:=fun _=>rfl) (hA20 _ (Kd.reads_of_C HR0_0.out)));have HC396:=m0 hC20;clear hA20 hC20 hi020 hsz20)|((with_reducible refine gc 57 rfl ?_);refine goesL_ (some 10) rfl rfl Tryz.func57 (by kernel_rfl) rfl #[.slice A20 (l0_0.drop (a1:Int).toNat).length (c0_0-a1.toNat)] rfl (by(try simp only[List.map_toArray,List.map_cons,List.map_nil]);first|done|(rw[show (l0_0.drop (a1:Int).toNat).length=(l0_0.length-a1.toNat)from List.length_drop]<;>rfl)|rfl|(simp only[List.length_drop,List.length_take];rfl)) ?_;(with_reducible refine(L_profile_sum.calls k _ _ (l0_0.drop (a1:Int).toNat) t397 _ ?side1 ?side2 A5.out).mono ?_);(case side1=>exact cb HR396 HB);(case side2=>exact HC396.out);rintro e w' ⟨rfl,⟨nd,rfl⟩⟩;refine⟨_,rfl,?_⟩))
      (try(rw[drewN_self w18];generalize hq_:World.drewN w18 _=w18;replace BK395:=gd BK395 hq_;replace HB:=gs HB hq_;clear hq_))
      replace BK395:=bd BK395;replace HB:=sd HB;have p398:0≤(a1:Int):=od;have q398:a1<(l0_0.length:Int):=od;obtain⟨ad398,e398,hx398_0⟩:=Kd.at_int HR0_0.out a1 p398 q398;have hw398_0:=hx398_0
      cases e398
      replace hx398_0:=hc HB hx398_0;replace p398:=eq_true p398;replace q398:=eq_true q398;refine start_ (n:=34) (S:=fun w'=>w'.cell? ⟨gb395,0,none⟩=some (.slice (some ad398) l0_0.length c0_0)∧w'.cell? ⟨gb395,1,none⟩=some (.int .i64 a0_1)∧w'.cell? ⟨gb395,2,none⟩=some (.int .i64 a0_2)∧w'.cell? ⟨gb395,3,none⟩=some (.int .i64 a0_3)∧w'.cell? ⟨gb395,4,none⟩=some (.int .i64 a0_4)∧w'.cell? (ad398.add (a1).toNat)=some (.int .i64 (rd l0_0 a1))) (ds:=[]) _ (by kernel_rfl) rfl rfl ⟨(blk_cell BK395.out 0).trans rfl,(blk_cell BK395.out 1).trans rfl,(blk_cell BK395.out 2).trans rfl,(blk_cell BK395.out 3).trans rfl,(blk_cell BK395.out 4).trans rfl,((HB.out.cell (World.block_lt_of_cell? w _ hw398_0)).trans hw398_0)⟩ (fun hH=>?_);refine with_tabW L_sight_isBlind.tab2 L_sight_isBlind.bits2 (fun HT_ HW_=>?_);generalize w18.drew=w21 at BK395 HB hx398_0 hH ⊢;refine pZ 0 (some 11) (bs 34 1) HT_ ?_;refine pZ 1 (some 12) (bs 34 3) HT_ ?_;refine pZ 2 (some 13) (bs 34 7) HT_ ?_;refine takeZ 3 (some 14) (bs 34 15) (tw HT_ HW_) hH ?_;refine pZ 4 (some 15) (bs 34 31) HT_ ?_;refine pZ 5 (some 16) (bs 34 63) HT_ ?_;refine pZ 6 (some 17) (bs 34 127) HT_ ?_;refine pZ 8 (some 19) (bs 34 383) HT_ ?_;refine pZ 11 (some 22) (bs 34 2431) HT_ ?_;refine pZ 12 (some 23) (bs 34 6527) HT_ ?_;refine takeZ 7 (some 18) (bs 34 6655) (tw HT_ HW_) hH ?_;refine pZ 9 (some 20) (bs 34 7167) HT_ ?_;refine takeZ 10 (some 21) (bs 34 8191) (tw HT_ HW_) hH ?_;refine takeZ 13 (some 24) (bs 34 16383) (tw HT_ HW_) hH ?_;refine pZ 14 (some 25) (bs 34 32767) HT_ ?_;refine pZ 15 (some 26) (bs 34 65535) HT_ ?_;refine pZ 16 (some 27) (bs 34 131071) HT_ ?_;refine pZ 17 (some 28) (bs 34 262143) HT_ ?_;refine pZ 18 (some 29) (bs 34 524287) HT_ ?_;refine pZ 19 (some 30) (bs 34 1048575) HT_ ?_;refine pZ 20 (some 31) (bs 34 2097151) HT_ ?_;refine pZ 23 (some 34) (bs 34 10485759) HT_ ?_;refine pZ 24 (some 35) (bs 34 27262975) HT_ ?_;refine pZ 25 (some 36) (bs 34 60817407) HT_ ?_;refine pZ 27 (some 38) (bs 34 195035135) HT_ ?_;refine takeZ 21 (some 32) (bs 34 197132287) (tw HT_ HW_) hH ?_;refine pZ 22 (some 33) (bs 34 201326591) HT_ ?_;refine takeZ 26 (some 37) (bs 34 268435455) (tw HT_ HW_) hH ?_;refine takeZ 28 (some 39) (bs 34 536870911) (tw HT_ HW_) hH ?_;refine oneZ 29 (some 40) (bs 34 1073741823) (o1 HT_) fun K hK=>?_;refine gz Tryz.func57 #[.slice (some ad398) l0_0.length c0_0] ?_
      with_reducible refine(L_profile_sum.calls k _ _ l0_0 t399 _ ?side1 ?side2 A17.out).mono ?_
      (case side1=>exact cb HR0_0 HB)
      (case side2=>exact HC0_0.out)
      rintro e w' ⟨rfl,⟨nd,rfl⟩⟩;refine⟨_,rfl,?_⟩;refine hK.out _ _ ⟨(blk_cell BK395.out 0).trans rfl,(blk_cell BK395.out 1).trans rfl,(blk_cell BK395.out 2).trans rfl,(blk_cell BK395.out 3).trans rfl,(blk_cell BK395.out 4).trans rfl,((HB.out.cell (World.block_lt_of_cell? w _ hw398_0)).trans hw398_0)⟩ (fun hH=>?_);clear hK K;refine nz 40 ?_;refine pZ 30 (some 41) (bs 34 2147483647) HT_ ?_;refine pZ 31 (some 42) (bs 34 4294967295) HT_ ?_;refine pZ 32 (some 43) (bs 34 8589934591) HT_ ?_;refine pZ 33 (some 4) (bs 34 17179869183) HT_ ?_;refine done_ (done_of HT_.out (by kernel_rfl)) ?_
      try go_wp2
      go_ret
      exact ez
    ·rw [if_neg c11]at H;exact absurd H (by simp)
  ·rw [if_neg c4]at H;exact absurd H (by simp)
 ·rw [if_neg c3]at H;exact absurd H (by simp)
end
section
theorem gate_via_ {P:Program} {ops:Array Oper} {Q:Exit→Act→World→Prop} {rest:List Oper} {o:Oper} {a:Act} {W:World} {t:Tmp} {av:Array Operand} {ts:Array TypeId} (_ho:o.op= .call {callee:= .value (.tmp t),args:=av,argTypes:=ts }) (h:wpList P ops Q (o::rest) a W):wpList P ops Q (o::rest) a W:=h
theorem goesLB_ {P:Program} {ops:Array Oper} {Q:Exit→Act→World→Prop} {rest:List Oper} {oi:Oper} {a:Act} {w:World} (N:Option Tmp) (hd:oi.dst=N) (hg:oi.guard=none) {av:Array Operand} {ts:Array TypeId} (t:Tmp) (f:FuncId) (bs cs:Array Value) (he:∀ args w,(callFunc f args).run P w= .ok (.enter f args) w) (args:Array Value)
  (hop:oi.op= .call {callee:= .value (.tmp t),args:=av,argTypes:=ts }) (ht:a.tmps[t]?=some (.func (.func f) bs cs)) (hargs:bs++av.map a.eval++cs=args)
  (h:Calls P f args w fun e w'=>∃ v,e= .returned v∧wpList P ops Q rest (a.put N v) w'):wpList P ops Q (oi::rest) a w:=by
 refine wpList_plain hg fun K hK=>?_;have hrun:(execOp a.eval oi).run P w= .ok (.enter f args) w:=by
  unfold execOp
  simp[hop,resolve,Deferred.ofValue,invoke,Act.eval,ht]
  simpa [Act.eval, ←hargs]using he args w
 unfold Oper.wp;rw[hrun,Oper.upon_enter];refine h.mono fun e w'' hh=>?_;obtain⟨v,rfl,hk⟩:=hh;subst hd;exact hK _ _ hk
def L_runs.l0 (p:Int→Option Bool):Nat→List (S40)→Int→Int→Option ((List (S40)))
 |0,_,_,_=>none
 |k+1,x5,x8,x9=>if x9<x8 then((p x9).bind fun t396=>(if t396=true then(if(wrap64 ((x5.length:Int)-1))≥0 then(if 0≤(wrap64 ((x5.length:Int)-1))then(if(wrap64 ((x5.length:Int)-1))<(x5.length:Int)then(if((rd_T40 x5 (wrap64 ((x5.length:Int)-1))).f1)=(wrap64 (x9-1))then(L_runs.l0 p k (x5.set ((wrap64 ((x5.length:Int)-1)):Int).toNat (⟨(rd_T40 x5 (wrap64 ((x5.length:Int)-1))).f0,x9⟩:S40)) x8 (wrap64 (x9+1)))else(if x5.length<8796093022208 then(L_runs.l0 p k (x5++ [(⟨x9,x9⟩:S40)]) x8 (wrap64 (x9+1)))else(none)))else(none))else(none))else(if x5.length<8796093022208 then(L_runs.l0 p k (x5++ [(⟨x9,x9⟩:S40)]) x8 (wrap64 (x9+1)))else(none)))else(L_runs.l0 p k x5 x8 (wrap64 (x9+1)))))else(some x5)
def L_runs.f (p:Int→Option Bool) (k:Nat) (a0:Int):Option ((List (S40))):=L_runs.l0 p k ([]:List (S40)) a0 0
theorem L_runs.mono_l {p q:Int→Option Bool} (hpq:∀ i,LeO (p i) (q i)):∀ k,(∀ y0 y1 y2,LeO (L_runs.l0 p k y0 y1 y2) (L_runs.l0 q (k+1) y0 y1 y2))
 |0=>fun _ _ _ r h=>by simp[L_runs.l0]at h
 | k+1=>by
  have ih0:=L_runs.mono_l hpq k
  ·intro y0 y1 y2;unfold L_runs.l0
   repeat' with_reducible first
    |exact ih0 ..
    |exact hpq ..
    |exact LeO.refl ..
    |exact LeO.none ..
    |refine LeO.ite ?_ ?_
    |refine LeO.bind ?_ (fun _=>?_)
theorem L_runs.mono2 {p q:Int→Option Bool} (hpq:∀ i,LeO (p i) (q i)):∀ a0 k,LeO (L_runs.f p k a0) (L_runs.f q (k+1) a0):=fun a0 k=>L_runs.mono_l hpq k _ _ _
theorem L_runs.own (p:Int→Option Bool) (gf:Nat) (bnd lb:Array Value) (eg:∀ args w,(callFunc gf args).run Tryz.prog w= .ok (.enter gf args) w) (k:Nat) (a0:Int) (r:List (S40)) (w:World) (hp:∀ (W:World) (x:Int) (b:Bool),Below w.heap.size w W→p x=some b→Calls Tryz.prog gf (bnd++ #[.int .i64 x]++lb) W fun e w'=>e= .returned (.bool b)∧Below W.heap.size W w') (H:L_runs.f p k a0=some r):
  Calls Tryz.prog 50 #[.int .i64 a0,.func (.func gf) bnd lb] w fun e w'=>∃ v0_:Value,e= .returned (v0_)∧Kd.R k40 40 w' w.heap.size (fun _=>True) v0_ r∧Below w.heap.size w w':=by
 have hu40:=Tryz.underlying40;have HP:=m0 hp;clear hp;have HB:=m0 (Below.refl w.heap.size w);unfold L_runs.f at H;have H':=m0 H;clear H;go_enter Tryz.func50,Tryz.ntmps50
 go_wp2
 go_loopg [5,9] k (fun kq v5 v9 w'=>∃ (x5_1:List (S40)) (x9_1:Int),v9= .int .i64 x9_1∧Aside0 (L_runs.l0 p kq x5_1 a0 x9_1=some r)∧Aside0 (kq≤k)∧Aside0 (Kd.R k40 40 w' w.heap.size (fun _=>True) v5 x5_1)∧Aside0 (Below w.heap.size w w'))
 case atStart=>exact⟨(([]:List (S40))),(0),rz,H',⟨Nat.le_refl _⟩,⟨by first|exact Kd.R_nil _ _ _ _ _|exact Kd.N_nil _ _ _ _ _|exact Kd.V_nil _ _ _ _ _|exact Kd.Q_nil _ _ _ _ _|exact Kd.S_nil _ _ _ _ _⟩,⟨bz⟩⟩
 case round=>
  clear H';obtain⟨x5_1,x9_1,rfl,HA,HK1,HO_5,HB⟩:=hrel
  cases gk with
  |zero=>exact absurd HA.out (by simp[L_runs.l0])
  | succ k1=>
   have H:=HA.out;clear HA;simp only[L_runs.l0]at H
   by_cases c2:x9_1<a0
   ·rw [if_pos c2]at H;have c2b0:=decide_eq_true c2;clear c2;replace H:=oa H;obtain⟨t396,A3,H⟩:=H;(try dsimp only at H)
    by_cases c4:t396=true
    ·subst c4;rw[if_pos rfl]at H
     by_cases c5:(wrap64 ((x5_1.length:Int)-1))≥0
     ·rw [if_pos c5]at H;have c5b0:=decide_eq_true c5;clear c5;obtain⟨ji6,hji6⟩:∃ j_:Int,(wrap64 ((x5_1.length:Int)-1))=j_:=⟨_,rfl⟩;replace H:(if 0≤(ji6)then(if(ji6)<(x5_1.length:Int)then(if((rd_T40 x5_1 (ji6)).f1)=(wrap64 (x9_1-1))then(L_runs.l0 p k1 (x5_1.set ((ji6):Int).toNat (⟨(rd_T40 x5_1 (ji6)).f0,x9_1⟩:S40)) a0 (wrap64 (x9_1+1)))else(if x5_1.length<8796093022208 then(L_runs.l0 p k1 (x5_1++ [(⟨x9_1,x9_1⟩:S40)]) a0 (wrap64 (x9_1+1)))else(none)))else(none))else(none))=some r:=by first|(rw[hji6]at H;exact H)|(simp only[hji6]at H ⊢;exact H)
      (try rw[hji6]at c5b0);(try rw[hji6]at A3);have hji6w:(IntKind.i64.wrap ((x5_1.length:Int)-1))=ji6:=(i64_w _).trans hji6
      by_cases c7:0≤(ji6)
      ·rw [if_pos c7]at H;have c7b0:=decide_eq_true c7;clear c7
       by_cases c8:(ji6)<(x5_1.length:Int)
       ·rw [if_pos c8]at H;have c8b0:=decide_eq_true c8;clear c8
        by_cases c9:((rd_T40 x5_1 (ji6)).f1)=(wrap64 (x9_1-1))
        ·rw [if_pos c9]at H;have c9b0:=beq_iff_eq.mpr c9;have c9b1:=bne_eq_false_iff_eq.mpr c9;clear c9;obtain⟨y398,hy398⟩:∃ y_:List (S40),y_=(x5_1.set ((ji6):Int).toNat (⟨(rd_T40 x5_1 (ji6)).f0,x9_1⟩:S40)):=⟨_,rfl⟩;replace H:(L_runs.l0 p k1 y398 a0 (wrap64 (x9_1+1)))=some r:=by first|(rw[hy398];with_reducible exact H)|(have H2_:=(Option.bind_some _ _).symm.trans H;rw[hy398];with_reducible exact H2_)|(have H2_:=(Option.bind_some _ _).symm.trans H;with_reducible exact H2_)|with_reducible exact H|(rw[hy398];exact H)|exact H
         have Ny398:=m0 hy398;clear hy398;have H':=m0 H;clear H
         go_wp2_with (first|((with_reducible refine gate_via_ (t:=12) rfl ?_);refine goesLB_ (some 14) rfl rfl 12 gf bnd lb eg (bnd++ #[.int .i64 x9_1]++lb) rfl (by rfl) (by first|rfl|(simp;done)|(simp;rfl)) ?_;(with_reducible refine(HP.out _ x9_1 true bz A3.out).mono ?_);rintro e w11 ⟨rfl,hb⟩;refine⟨_,rfl,?_⟩;replace HO_5:=rb HO_5 hb;replace HB:=sb HB hb;(try clear hb);obtain⟨Ao12,co12,eo12⟩:=Kd.R_slice HO_5.out;subst eo12;have p397:0≤((ji6):Int):=od;have q397:(ji6)<(x5_1.length:Int):=od;obtain⟨ad397,e397,hx397_0,hx397_1⟩:=at_T40 (Kd.R_reads' HO_5.out).2.2 (ji6) p397 q397;cases e397;replace p397:=eq_true p397;replace q397:=eq_true q397;have p10:0≤((ji6):Int):=od;have q10:((ji6):Int)<((x5_1.length:Int):Int):=od;obtain⟨go10,co10,eo10,gb10,gl10,cl10,HG10⟩:=Kd.R_form HO_5.out (by omega);(first|cases eo10|(injection eo10 with ea_ en_ ec_;(first|subst ea_|(injection ea_ with ea_;subst ea_));subst ec_;clear en_));have GB10:=m0 gb10;have GG10:=m0 HG10;clear gb10 gl10 HG10;(first|simp only[add_plain]at hx397_0|skip);(first|simp only[add_plain]at hx397_1|skip);obtain⟨ce10,hcl10,hM10,hcc10,hfr10⟩:=Kd.R_elem HO_5.out z40 ((ji6):Int) p10 q10;obtain rfl:=k40_openM hM10;have hx10_0:w11.cell? ⟨go10,((ji6):Int).toNat*2,none⟩=some (.int .i64 ((rd_T40 x5_1 (ji6)).f0)):=hcc10 0 _ rfl;have hx10_1:w11.cell? ⟨go10,((ji6):Int).toNat*2+1,none⟩=some (.int .i64 ((rd_T40 x5_1 (ji6)).f1)):=hcc10 1 _ rfl;have hf10_0:w11.frozen? ⟨go10,((ji6):Int).toNat*2,none⟩=false:=hfr10 0;have hf10_1:w11.frozen? ⟨go10,((ji6):Int).toNat*2+1,none⟩=false:=hfr10 1;clear hcl10 hcc10 hfr10 hM10;replace p10:=eq_true p10;replace q10:=eq_true q10;have HX13:=m0 (show Kd.R k40 40 w11 w.heap.size (fun _=>True) (.slice (some ⟨go10,0,none⟩) x5_1.length co12) x5_1 from(br HO_5.out));obtain⟨ce13,hcl13,hM13,hcc13,hfr13⟩:=Kd.R_elem HX13.out z40 ((ji6):Int) (od) (by have h_:((ji6):Int)<((x5_1.length:Int):Int):=od;first|exact h_|(have e_:=(Kd.R_reads' HO_5.out).1;omega)|simpa using h_);obtain rfl:=k40_openM hM13;have HP13:=Kd.R_seg HX13.out ((ji6):Int) (od) (by have h_:((ji6):Int)<((x5_1.length:Int):Int):=od;first|exact h_|(have e_:=(Kd.R_reads' HO_5.out).1;omega)|simpa using h_) (seg:=[.int .i64 x9_1]) (j:=1) hcl13 hcc13 (show 2≤2 from by decide) (x':=(⟨(rd_T40 x5_1 (ji6)).f0,x9_1⟩:S40)) (k40_mkM _ _ _ (⟨(rd_T40 x5_1 (ji6)).f0,x9_1⟩:S40) ) (fun _ hk=>hk);have hx13_1:=hcc13 1 _ rfl;(try simp only[show (k40).sz=2 from rfl,Nat.mul_one,Nat.add_zero]at hx13_1);have hf13_1:=hfr13 1;(try simp only[show (k40).sz=2 from rfl,Nat.mul_one,Nat.add_zero]at hf13_1);clear hcl13 hcc13 hfr13 hM13)|((with_reducible refine gate_store (t:=3) (p:=35) rfl ?_);refine store_event (t:=3) (p:=35) (v:= ?vo_w14) (w1:=(w11.setCell ⟨go10,((ji6):Int).toNat*2+1,none⟩ (.int .i64 x9_1))) ?hg ?ho ?hn ?hr ?_;(case ho=>rfl);(case hg=>rfl);(case hn=>rfl);(case hr=>first|(go_simp;done)|(go_simp;rfl));intro w14 hw;have hg:w11.grownBy w14 (some go10):=(by rw[hw];exact HP13.2);have hp_:Kd.R k40 40 w14 w.heap.size (fun _=>True) (.slice (some ⟨go10,0,none⟩) x5_1.length co12) y398:=(by rw[hw,Ny398.out];exact HP13.1);clear HP13;replace HO_5:=m0 (hp_);replace HB:=m0 ((by rw[hw];exact below_set (HB.out) GB10.out:Below w.heap.size w w14));clear hg hw hp_))
         go_roundg k1
         case measure=>have:=HK1.out;omega
         case rel=>exact⟨(y398),(wrap64 (x9_1+1)),rz,H',⟨by have:=HK1.out;omega⟩,⟨br HO_5.out⟩,⟨bz⟩⟩
        ·rw [if_neg c9]at H;have c9b0:=beq_eq_false_iff_ne.mpr c9;have c9b1:=bne_iff_ne.mpr c9
         by_cases c15:x5_1.length<8796093022208
         ·rw [if_pos c15]at H;have LMc15:=m0 c15;clear c15;obtain⟨y399,hy399⟩:∃ y_:List (S40),y_=(x5_1++ [(⟨x9_1,x9_1⟩:S40)]):=⟨_,rfl⟩;replace H:(L_runs.l0 p k1 y399 a0 (wrap64 (x9_1+1)))=some r:=by first|(rw[hy399];with_reducible exact H)|(have H2_:=(Option.bind_some _ _).symm.trans H;rw[hy399];with_reducible exact H2_)|(have H2_:=(Option.bind_some _ _).symm.trans H;with_reducible exact H2_)|with_reducible exact H|(rw[hy399];exact H)|exact H
          have Ny399:=m0 hy399;clear hy399;have H':=m0 H;clear H
          go_wp2_with (first|((with_reducible refine gate_via_ (t:=12) rfl ?_);refine goesLB_ (some 14) rfl rfl 12 gf bnd lb eg (bnd++ #[.int .i64 x9_1]++lb) rfl (by rfl) (by first|rfl|(simp;done)|(simp;rfl)) ?_;(with_reducible refine(HP.out _ x9_1 true bz A3.out).mono ?_);rintro e w16 ⟨rfl,hb⟩;refine⟨_,rfl,?_⟩;replace HO_5:=rb HO_5 hb;replace HB:=sb HB hb;(try clear hb);obtain⟨Ao17,co17,eo17⟩:=Kd.R_slice HO_5.out;subst eo17;have p397:0≤((ji6):Int):=od;have q397:(ji6)<(x5_1.length:Int):=od;obtain⟨ad397,e397,hx397_0,hx397_1⟩:=at_T40 (Kd.R_reads' HO_5.out).2.2 (ji6) p397 q397;cases e397;replace p397:=eq_true p397;replace q397:=eq_true q397)|((with_reducible refine gate_builtin (b:= .append) (xs:= #[.tmp 36,.tmp 40]) rfl ?_);at_builtin;refine Kd.R_append k40 (w0:=w) w.heap.size rfl (.tmp 36) (.tmp 40) 34 40 (.agg #[(.int .i64 0),(.int .i64 0)]) 16 rfl Tryz.underlying34 info40 rfl (by decide) (by omega) (.slice (some ad397) x5_1.length co17) x5_1 (⟨x9_1,x9_1⟩:S40) [.int .i64 x9_1,.int .i64 x9_1] (fun _=>True) (fun _=>False) rfl rfl ?aP (fun _ hk=>hk.elim) ?aF ?aO ?aB ?aS ?aL ?_;(case aP=>exact k40_mkM _ _ _ (⟨x9_1,x9_1⟩:S40));(case aB=>exact bz);(case aF=>exact(fun _ _=>trivial));(case aO=>exact(br HO_5.out));(case aS=>exact(below_size bz));(case aL=>have:=LMc15.out;omega);intro v400 w18 ho hb hg hat;rw[← Ny399.out]at ho;have n0_:=m0 (hb);have n1_:=m0 (ho);clear HB;clear HO_5;have HB:=n0_;have HO401:=n1_;clear n0_ n1_;clear ho hb hg hat))
          go_roundg k1
          case measure=>have:=HK1.out;omega
          case rel=>exact⟨(y399),(wrap64 (x9_1+1)),rz,H',⟨by have:=HK1.out;omega⟩,⟨br HO401.out⟩,⟨bz⟩⟩
         ·rw [if_neg c15]at H;exact absurd H (by simp)
       ·rw [if_neg c8]at H;exact absurd H (by simp)
      ·rw [if_neg c7]at H;exact absurd H (by simp)
     ·rw [if_neg c5]at H;have c5b0:=decide_eq_false c5;clear c5
      by_cases c19:x5_1.length<8796093022208
      ·rw [if_pos c19]at H;have LMc19:=m0 c19;clear c19;obtain⟨y402,hy402⟩:∃ y_:List (S40),y_=(x5_1++ [(⟨x9_1,x9_1⟩:S40)]):=⟨_,rfl⟩;replace H:(L_runs.l0 p k1 y402 a0 (wrap64 (x9_1+1)))=some r:=by first|(rw[hy402];with_reducible exact H)|(have H2_:=(Option.bind_some _ _).symm.trans H;rw[hy402];with_reducible exact H2_)|(have H2_:=(Option.bind_some _ _).symm.trans H;with_reducible exact H2_)|with_reducible exact H|(rw[hy402];exact H)|exact H
       have Ny402:=m0 hy402;clear hy402;have H':=m0 H;clear H
       go_wp2_with (first|((with_reducible refine gate_via_ (t:=12) rfl ?_);refine goesLB_ (some 14) rfl rfl 12 gf bnd lb eg (bnd++ #[.int .i64 x9_1]++lb) rfl (by rfl) (by first|rfl|(simp;done)|(simp;rfl)) ?_;(with_reducible refine(HP.out _ x9_1 true bz A3.out).mono ?_);rintro e w20 ⟨rfl,hb⟩;refine⟨_,rfl,?_⟩;replace HO_5:=rb HO_5 hb;replace HB:=sb HB hb;(try clear hb);obtain⟨Ao21,co21,eo21⟩:=Kd.R_slice HO_5.out;subst eo21)|((with_reducible refine gate_builtin (b:= .append) (xs:= #[.tmp 36,.tmp 40]) rfl ?_);at_builtin;refine Kd.R_append k40 (w0:=w) w.heap.size rfl (.tmp 36) (.tmp 40) 34 40 (.agg #[(.int .i64 0),(.int .i64 0)]) 16 rfl Tryz.underlying34 info40 rfl (by decide) (by omega) (.slice Ao21 x5_1.length co21) x5_1 (⟨x9_1,x9_1⟩:S40) [.int .i64 x9_1,.int .i64 x9_1] (fun _=>True) (fun _=>False) rfl rfl ?aP (fun _ hk=>hk.elim) ?aF ?aO ?aB ?aS ?aL ?_;(case aP=>exact k40_mkM _ _ _ (⟨x9_1,x9_1⟩:S40));(case aB=>exact bz);(case aF=>exact(fun _ _=>trivial));(case aO=>exact(br HO_5.out));(case aS=>exact(below_size bz));(case aL=>have:=LMc19.out;omega);intro v403 w22 ho hb hg hat;rw[← Ny402.out]at ho;have n0_:=m0 (hb);have n1_:=m0 (ho);clear HB;clear HO_5;have HB:=n0_;have HO404:=n1_;clear n0_ n1_;clear ho hb hg hat))
       go_roundg k1
       case measure=>have:=HK1.out;omega
       case rel=>exact⟨(y402),(wrap64 (x9_1+1)),rz,H',⟨by have:=HK1.out;omega⟩,⟨br HO404.out⟩,⟨bz⟩⟩
      ·rw [if_neg c19]at H;exact absurd H (by simp)
    ·replace c4:=Bool.eq_false_iff.mpr c4;subst c4;rw[if_neg (show ¬ (false=true) by decide)]at H;have H':=m0 H;clear H
     go_wp2_with (first|((with_reducible refine gate_via_ (t:=12) rfl ?_);refine goesLB_ (some 14) rfl rfl 12 gf bnd lb eg (bnd++ #[.int .i64 x9_1]++lb) rfl (by rfl) (by first|rfl|(simp;done)|(simp;rfl)) ?_;(with_reducible refine(HP.out _ x9_1 false bz A3.out).mono ?_);rintro e w23 ⟨rfl,hb⟩;refine⟨_,rfl,?_⟩;replace HO_5:=rb HO_5 hb;replace HB:=sb HB hb;(try clear hb)))
     go_roundg k1
     case measure=>have:=HK1.out;omega
     case rel=>exact⟨(x5_1),(wrap64 (x9_1+1)),rz,H',⟨by have:=HK1.out;omega⟩,⟨br HO_5.out⟩,⟨bz⟩⟩
   ·rw [if_neg c2]at H;have c2b0:=decide_eq_false c2;clear c2;obtain rfl:=Option.some.inj H
    go_wp2
    go_ret
    exact⟨_,by first|rfl|(simp[errW_none,errW_some]<;>rfl)|(simp[*,errW_none,errW_some]<;>rfl),by(with_reducible repeat(first|apply Kd.R_alloc|apply Kd.R_drewN|apply Kd.R_drew));exact HO_5.out,by repeat(first|(with_reducible first|exact HB.out|apply below_alloc|apply pw_below_drewN|apply below_drew1)|exact HB.out)⟩
def L_runs_floor.p (l:List Int) (x0:Int):Int→Option Bool:=fun i=>if 0≤i then(if i<(l.length:Int)then some (decide (x0≤rd l i))else none)else none
def L_runs_floor.f (k:Nat) (a0:Int) (l:List Int) (x0 x1 x2:Int):Option (List S40):=L_runs.f (L_runs_floor.p l x0) k a0
theorem L_runs_floor.mono:∀ a0 l x0 x1 x2 k,LeO (L_runs_floor.f k a0 l x0 x1 x2) (L_runs_floor.f (k+1) a0 l x0 x1 x2):=fun a0 l x0 x1 x2 k=>L_runs.mono2 (fun i=>LeO.refl _) a0 k
theorem L_runs_floor.lit {W:World} {B0 B1:Nat} {A:Option Addr} {c:Nat} {l:List Int} {x0 x:Int} (hc0:W.cell? ⟨B0,0,none⟩=some (.slice A l.length c)) (hc1:W.cell? ⟨B1,0,none⟩=some (.int .i64 x0)) (hr:Kd.C (Kd.int .i64) W A l.length l) (h0:0≤x) (h1:x<(l.length:Int)):
  Calls Tryz.prog 51 #[.int .i64 x,.pointer (some ⟨B0,0,none⟩),.pointer (some ⟨B1,0,none⟩)] W fun e w'=>e= .returned (.bool (decide (x0≤rd l x)))∧Drawn0 W w':=by
 obtain⟨ad,e,hx⟩:=Kd.at_int hr x h0 h1;subst e;have p0:=eq_true h0;have q0:=eq_true h1;clear hr h0 h1;go_enter Tryz.func51,Tryz.ntmps51
 go_wp2
 repeat(go_quiet (fail);try go_wp2)
 go_ret
 exact⟨rz,by repeat(first|exact Drawn0.refl _|apply Drawn0.step)⟩
theorem L_runs_floor.calls (k:Nat) (a0:Int) (B0 B1:Nat) (A:Option Addr) (c:Nat) (l:List Int) (x0 x1 x2:Int) (r:List S40) (w:World) (hb0:w.heap[B0]?=some (.cells #[.slice A l.length c] 93 (0,0))) (hb1:w.heap[B1]?=some (.cells #[.int .i64 x0,.int .i64 x1,.int .i64 x2] 26 (0,0))) (hr:Kd.C (Kd.int .i64) w A l.length l) (hc:l.length≤c) (h:L_runs_floor.f k a0 l x0 x1 x2=some r):
  Calls Tryz.prog 50 #[.int .i64 a0,.func (.func 51) #[] #[.pointer (some ⟨B0,0,none⟩),.pointer (some ⟨B1,0,none⟩)]] w fun e w'=>∃ v0_:Value,e= .returned v0_∧Kd.R k40 40 w' w.heap.size (fun _=>True) v0_ r∧Below w.heap.size w w':=by
 refine L_runs.own (L_runs_floor.p l x0) _ _ _ (enters_of Tryz.func51 (by kernel_rfl) rfl) k a0 r w ?_ h;intro W x b hB hb;unfold L_runs_floor.p at hb
 by_cases h0:0≤x
 case neg=>rw[if_neg h0]at hb;exact absurd hb (by simp)
 rw[if_pos h0]at hb
 by_cases h1:x<(l.length:Int)
 case neg=>rw[if_neg h1]at hb;exact absurd hb (by simp)
 rw[if_pos h1]at hb;obtain rfl:=Option.some.inj hb;have hc0:W.cell? ⟨B0,0,none⟩=some (.slice A l.length c):=(blk_cell (blk_below hb0 hB) 0).trans rfl;have hc1:W.cell? ⟨B1,0,none⟩=some (.int .i64 x0):=(blk_cell (blk_below hb1 hB) 0).trans rfl;exact(L_runs_floor.lit hc0 hc1 (Kd.C_below hr hB) h0 h1).mono fun e w' h=>⟨h.1,by obtain⟨q,rfl⟩:=h.2.out;exact pw_below_drewN (Below.refl _ _) _⟩
def L_runs_blind.f (k:Nat) (a0:Int) (l:List Int) (x0 x1 x2 x3:Int):Option (List S40):=L_runs.f (fun i=>L_sight_isBlind.f k l x0 x1 x2 x3 i) k a0
theorem L_runs_blind.mono:∀ a0 l x0 x1 x2 x3 k,LeO (L_runs_blind.f k a0 l x0 x1 x2 x3) (L_runs_blind.f (k+1) a0 l x0 x1 x2 x3):=fun a0 l x0 x1 x2 x3 k=>L_runs.mono2 (fun i=>L_sight_isBlind.mono _ _ _ _ _ _ _) a0 k
theorem L_runs_blind.calls (k:Nat) (a0:Int) (A:Option Addr) (c:Nat) (l:List Int) (x0 x1 x2 x3:Int) (r:List S40) (w:World) (hr:Kd.C (Kd.int .i64) w A l.length l) (hc:l.length≤c) (h:L_runs_blind.f k a0 l x0 x1 x2 x3=some r):
  Calls Tryz.prog 50 #[.int .i64 a0,.func (.func 58) #[.agg #[.slice A l.length c,.int .i64 x0,.int .i64 x1,.int .i64 x2,.int .i64 x3]] #[]] w fun e w'=>∃ v0_:Value,e= .returned v0_∧Kd.R k40 40 w' w.heap.size (fun _=>True) v0_ r∧Below w.heap.size w w':=by
 refine L_runs.own (fun i=>L_sight_isBlind.f k l x0 x1 x2 x3 i) _ _ _ (enters_of Tryz.func58 (by kernel_rfl) rfl) k a0 r w ?_ h;intro W x b hB hb;exact L_sight_isBlind.calls k _ _ l x0 x1 x2 x3 x b W (Kd.C_below hr hB) hc hb
end
section
def L_LayersIn_2.f (a0_0:Int) (a0_1:Int) (a1:Int):Option (Bool):=some (decide ((wrap64 ((wrap64 (a0_1-a0_0))+1))<a1))
theorem L_LayersIn_2.calls (a0_0:Int) (a0_1:Int) (a1:Int) (r:Bool) (B:Nat) (b0 b1:Int) (w:World) (hbx:w.heap[B]?=some (.cells #[.int .i64 b0,.int .i64 b1,.int .i64 a1] 26 (0,0))) (H:L_LayersIn_2.f a0_0 a0_1 a1=some r):
  Calls Tryz.prog 53 #[.agg #[.int .i64 a0_0,.int .i64 a0_1],.pointer (some ⟨B,0,none⟩)] w fun e w'=>e= .returned (.bool r)∧Below w.heap.size w w':=by
 have hu40:=Tryz.underlying40;have HX:=m0 hbx;clear hbx;have HB:=m0 (Below.refl w.heap.size w);unfold L_LayersIn_2.f at H;obtain rfl:=Option.some.inj H;go_enter Tryz.func53,Tryz.ntmps53
 go_wp2_with (first|((with_reducible refine ga 2 rfl ?_);refine be 2 40 #[.int .i64 a0_0,.int .i64 a0_1] ?_;intro gb405 hg w3 hbox hb;have BK405:=m0 hbox;have GE405:=gw w hg;replace HB:=sb HB hb;clear hb hbox hg;have hcx:w3.cell? ⟨B,2,none⟩=some (.int .i64 a1):=(blk_cell (blk_below HX.out HB.out) 2).trans rfl;obtain⟨_,_,_,_⟩:=b2 BK405))
 go_ret
 exact ez
end
section
/-- A call through a variable that holds a function with captured values. -/
theorem goesLC_ {P:Program} {ops:Array Oper} {Q:Exit→Act→World→Prop} {rest:List Oper} {oi:Oper} {a:Act} {w:World} (N:Option Tmp) (hd:oi.dst=N) (hg:oi.guard=none) {f:FuncId} {fn:Func} {av:Array Operand} {ts:Array TypeId} (t:Tmp) (cs:Array Value) (hf:P.funcs[f]?=some fn) (hname:(fn.name== "runtime.NumGoroutine")=false) (hb:fn.body.isSome=true) (args:Array Value)
  (hop:oi.op= .call {callee:= .value (.tmp t),args:=av,argTypes:=ts }) (ht:a.tmps[t]?=some (.func (.func f) #[] cs)) (hargs:av.map a.eval++cs=args)
  (h:Calls P f args w fun e w'=>∃ v,e= .returned v∧wpList P ops Q rest (a.put N v) w'):wpList P ops Q (oi::rest) a w:=by
 refine wpList_plain hg fun K hK=>?_;have he:=enters_ hf hname hb args w;have hrun:(execOp a.eval oi).run P w= .ok (.enter f args) w:=by
  unfold execOp
  simp[hop,resolve,Deferred.ofValue,invoke,Act.eval,ht]
  simpa [Act.eval,hargs]using he
 unfold Oper.wp;rw[hrun,Oper.upon_enter];refine h.mono fun e w'' hh=>?_;obtain⟨v,rfl,hk⟩:=hh;subst hd;exact hK _ _ hk
def api_Range_81.l0:Nat→List (S40)→Int→Int→Int→Option (Int)
 |0,_,_,_,_=>none
 |k+1,x0,x1,x7,x8=>if x8<x7 then(if 0≤x8 then(if x8<(x0.length:Int)then((L_LayersIn_2.f ((rd_T40 x0 x8).f0) ((rd_T40 x0 x8).f1) x1).bind fun t407=>(if t407=true then(some x8)else(api_Range_81.l0 k x0 x1 x7 (wrap64 (x8+1)))))else(none))else(none))else(some (-1))
def api_Range_81.f (k:Nat) (l0:List (S40)) (a1:Int):Option (Int):=api_Range_81.l0 k l0 a1 (l0.length:Int) 0
theorem api_Range_81.mono_l:∀ k,(∀ y0 y1 y2 y3,LeO (api_Range_81.l0 k y0 y1 y2 y3) (api_Range_81.l0 (k+1) y0 y1 y2 y3))
 |0=>fun _ _ _ _ r h=>by simp[api_Range_81.l0]at h
 | k+1=>by
  have ih0:=api_Range_81.mono_l k
  ·intro y0 y1 y2 y3;unfold api_Range_81.l0
   repeat' with_reducible first
    |exact ih0 ..
    |exact LeO.refl ..
    |exact LeO.none ..
    |refine LeO.ite ?_ ?_
    |refine LeO.bind ?_ (fun _=>?_)
theorem api_Range_81.mono:∀ a0 a1 k,LeO (api_Range_81.f k a0 a1) (api_Range_81.f (k+1) a0 a1):=by
 intro a0 a1 k;have ih0:=api_Range_81.mono_l k;unfold api_Range_81.f
 repeat' with_reducible first
  |exact ih0 ..
  |exact LeO.refl ..
  |exact LeO.none ..
  |refine LeO.ite ?_ ?_
  |refine LeO.bind ?_ (fun _=>?_)
theorem api_Range_81.calls (k:Nat) (A0:Option Addr) (c0:Nat) (l0:List (S40)) (a1:Int) (r:Int) (B:Nat) (b0 b1:Int) (w:World) (hbx:w.heap[B]?=some (.cells #[.int .i64 b0,.int .i64 b1,.int .i64 a1] 26 (0,0))) (hr0:Kd.C k40 w A0 l0.length l0) (hc0:l0.length≤c0) (H:api_Range_81.f k l0 a1=some r):
  Calls Tryz.prog 81 #[.slice A0 l0.length c0,.func (.func 53) #[] #[.pointer (some ⟨B,0,none⟩)]] w fun e w'=>e= .returned (.int .i64 r)∧Below w.heap.size w w':=by
 have hu40:=Tryz.underlying40;have HX:=m0 hbx;clear hbx;have HR0:=m0 hr0;have HC0:=m0 hc0;clear hr0 hc0;have HB:=m0 (Below.refl w.heap.size w);unfold api_Range_81.f at H;have H':=m0 H;clear H;go_enter Tryz.func81,Tryz.ntmps81
 go_wp2
 go_loopg [8] k (fun kq v8 w'=>∃ (x8_1:Int),v8= .int .i64 x8_1∧Aside0 (api_Range_81.l0 kq l0 a1 (l0.length:Int) x8_1=some r)∧Aside0 (kq≤k)∧Aside0 (Below w.heap.size w w'))
 case atStart=>exact⟨(0),rz,H',⟨Nat.le_refl _⟩,⟨bz⟩⟩
 case round=>
  clear H';obtain⟨x8_1,rfl,HA,HK1,HB⟩:=hrel
  cases gk with
  |zero=>exact absurd HA.out (by simp[api_Range_81.l0])
  | succ k1=>
   have H:=HA.out;clear HA;simp only[api_Range_81.l0]at H
   by_cases c3:x8_1<(l0.length:Int)
   ·rw [if_pos c3]at H;have c3b0:=decide_eq_true c3;clear c3
    by_cases c4:0≤x8_1
    ·rw [if_pos c4]at H;have c4b0:=decide_eq_true c4;clear c4
     by_cases c5:x8_1<(l0.length:Int)
     ·rw [if_pos c5]at H;have c5b0:=decide_eq_true c5;clear c5;replace H:=oa H;obtain⟨t407,A6,H⟩:=H;(try dsimp only at H)
      by_cases c7:t407=true
      ·subst c7;rw[if_pos rfl]at H;obtain rfl:=Option.some.inj H;have p406:0≤(x8_1:Int):=od;have q406:x8_1<(l0.length:Int):=od;obtain⟨ad406,e406,hx406_0,hx406_1⟩:=at_T40 HR0.out x8_1 p406 q406
       cases e406
       replace hx406_0:=hc HB hx406_0;replace hx406_1:=hc HB hx406_1;replace p406:=eq_true p406;replace q406:=eq_true q406
       go_wp2_with (first|((with_reducible refine gate_via_ (t:=11) rfl ?_);refine goesLC_ (some 16) rfl rfl 11 #[.pointer (some ⟨B,0,none⟩)] Tryz.func53 (by kernel_rfl) rfl #[.agg #[.int .i64 ((rd_T40 l0 x8_1).f0),.int .i64 ((rd_T40 l0 x8_1).f1)],.pointer (some ⟨B,0,none⟩)] rfl (by rfl) (by first|rfl|(simp;done)|(simp;rfl)) ?_;(with_reducible refine(L_LayersIn_2.calls ((rd_T40 l0 x8_1).f0) ((rd_T40 l0 x8_1).f1) a1 true B b0 b1 _ ?sideb A6.out).mono ?_);(case sideb=>exact(by(with_reducible repeat(first|refine blk_drewN ?_ _|refine blk_drew ?_|refine blk_alloc ?_ _));exact blk_below HX.out HB.out));rintro e w8 ⟨rfl,hb⟩;refine⟨_,rfl,?_⟩;replace HB:=sb HB hb;(try clear hb)))
       go_ret
       exact ez
      ·replace c7:=Bool.eq_false_iff.mpr c7;subst c7;rw[if_neg (show ¬ (false=true) by decide)]at H;have H':=m0 H;clear H;have p406:0≤(x8_1:Int):=od;have q406:x8_1<(l0.length:Int):=od;obtain⟨ad406,e406,hx406_0,hx406_1⟩:=at_T40 HR0.out x8_1 p406 q406
       cases e406
       replace hx406_0:=hc HB hx406_0;replace hx406_1:=hc HB hx406_1;replace p406:=eq_true p406;replace q406:=eq_true q406
       go_wp2_with (first|((with_reducible refine gate_via_ (t:=11) rfl ?_);refine goesLC_ (some 16) rfl rfl 11 #[.pointer (some ⟨B,0,none⟩)] Tryz.func53 (by kernel_rfl) rfl #[.agg #[.int .i64 ((rd_T40 l0 x8_1).f0),.int .i64 ((rd_T40 l0 x8_1).f1)],.pointer (some ⟨B,0,none⟩)] rfl (by rfl) (by first|rfl|(simp;done)|(simp;rfl)) ?_;(with_reducible refine(L_LayersIn_2.calls ((rd_T40 l0 x8_1).f0) ((rd_T40 l0 x8_1).f1) a1 false B b0 b1 _ ?sideb A6.out).mono ?_);(case sideb=>exact(by(with_reducible repeat(first|refine blk_drewN ?_ _|refine blk_drew ?_|refine blk_alloc ?_ _));exact blk_below HX.out HB.out));rintro e w9 ⟨rfl,hb⟩;refine⟨_,rfl,?_⟩;replace HB:=sb HB hb;(try clear hb)))
       go_roundg k1
       case measure=>have:=HK1.out;omega
       case rel=>exact⟨(wrap64 (x8_1+1)),rz,H',⟨by have:=HK1.out;omega⟩,⟨bz⟩⟩
     ·rw [if_neg c5]at H;exact absurd H (by simp)
    ·rw [if_neg c4]at H;exact absurd H (by simp)
   ·rw [if_neg c3]at H;have c3b0:=decide_eq_false c3;clear c3;obtain rfl:=Option.some.inj H
    go_wp2
    go_ret
    exact ez
end
section
theorem setCells_blk {g:Nat} {e:TypeId}:∀ (vs:List Value) (o:Nat) (w:World) (cur:Array Value),w.heap[g]?=some (.cells cur e (0,0))→
  ∃ cur',(w.setCells g o vs).heap[g]?=some (.cells cur' e (0,0))∧cur'.size=cur.size∧∀ j,j<o→cur'[j]?=cur[j]?
 | [],_,_,cur,h=>⟨cur,h,rfl,fun _ _=>rfl⟩
 |v::r,o,w,cur,h=>by
  obtain⟨cur',h1,h2,h3⟩:=setCells_blk r (o+1) (w.setCell ⟨g,o,none⟩ v) _ (blk_put h o v rfl);refine⟨cur',h1,by rw[h2,Array.size_setIfInBounds],fun j hj=>?_⟩;rw[h3 j (by omega),Array.getElem?_setIfInBounds_ne (by omega)]
theorem setCells_grown {g:Nat}:∀ (vs:List Value) (o:Nat) (w:World),w.grownBy (w.setCells g o vs) (some g)
 | [],_,w=>⟨rfl,rfl,rfl,Nat.le_refl _,fun _ _ _=>rfl⟩
 |v::r,o,w=>by
  have h:=setCells_grown r (o+1) (w.setCell ⟨g,o,none⟩ v) (g:=g);have hs:(w.setCell ⟨g,o,none⟩ v).heap.size=w.heap.size:=by simp[World.setCell]
  refine⟨h.os,h.tape,h.output,by rw[← hs];exact h.size,fun k hk hne=>(h.block k (by rw[hs];exact hk) hne).trans (Below.heap_setCell w ⟨g,o,none⟩ v k (fun e=>hne (by rw[e])))⟩
theorem clear_tail40 {w:World} {base:Nat} {ok:Nat→Prop} {A:Option Addr} {c:Nat} {xs:List S40} (m:Nat) (h:k40.R 40 w base ok (.slice A xs.length c) xs) (hm:m≤xs.length):
  ∃ w',(∀ ty,(Builtin.clear_ #[34] ty #[.slice (if c=m then A else A.map (·.add (m*2))) (xs.length-m) (c-m)]).run Tryz.prog w= .ok (.tuple #[]) w')∧k40.R 40 w' base ok (.slice A m c) (xs.take m)∧w.grownBy w' (Value.slice A xs.length c).ownBlock:=by
 have ht:=Kd.R_take h hm;have hu:=Tryz.underlying34;have hrefl:w.grownBy w (Value.slice A xs.length c).ownBlock:=⟨rfl,rfl,rfl,Nat.le_refl _,fun _ _ _=>rfl⟩
 by_cases h0:xs.length-m=0
 ·refine ⟨w,fun ty=>?_,ht,hrefl⟩;rw[h0];generalize (if c=m then A else A.map (·.add (m*2)))=A'
  cases A'<;>simp[Builtin.clear_,run_underlying hu,Result.andThen]
 ·have ho:=h.2;obtain⟨inner,ho,hr⟩:=ho;obtain⟨hl,⟨e,hz⟩|⟨g,cap,cur,e,hb,hh,h1,h2,h3,h4⟩⟩:=ho
  ·omega
  ·injection e with e1 e2 e3
   subst e1;subst e3;have hcm:¬ c=m:=by omega
   rw[if_neg hcm];have hadd:(Option.map (fun x:Addr=>x.add (m*2)) (some (⟨g,0,none⟩:Addr)))=some ⟨g,m*2,none⟩:=by simp[Addr.add];try omega
   rw[hadd];have hsz:k40.sz=2:=rfl;rw[hsz]at h3;have hzv:∀ w,(zeroValue 40).run Tryz.prog w= .ok (.agg #[.int .i64 0,.int .i64 0]) w:=fun w=>Tryz.zeroValue40 w;have hlen:(Builtin.zeroCells (Value.agg #[.int .i64 0,.int .i64 0]).cells (xs.length-m)).toList.length=(xs.length-m)*2:=by simp[Builtin.zeroCells,Value.cells]
   have hone:∀ v∈(Builtin.zeroCells (Value.agg #[.int .i64 0,.int .i64 0]).cells (xs.length-m)).toList,v.oneCell'=true:=by
    intro v hv;simp only[Builtin.zeroCells,Value.cells,Array.toList_map,List.mem_map]at hv;obtain⟨i,_,rfl⟩:=hv;have:i % 2=0∨i % 2=1:=by omega
    rcases this with e|e<;>simp[e,Value.oneCell']
   have hst:=run_storeCells_cells (P:=Tryz.prog) g (m*2) (Builtin.zeroCells (Value.agg #[.int .i64 0,.int .i64 0]).cells (xs.length-m)).toList 0 w
    (by
     intro j hj;rw[hlen]at hj;simp only[World.cell?,hh];have:m*2+j<cur.size:=by rw[h3];omega
     simp[this])
    (by intro j hj;simp[World.frozen?,hh]) hone
   simp only[Nat.add_zero]at hst;obtain⟨cur',k1,k2,k3⟩:=setCells_blk (Builtin.zeroCells (Value.agg #[.int .i64 0,.int .i64 0]).cells (xs.length-m)).toList (m*2) w cur hh;have hg:=setCells_grown (g:=g) (Builtin.zeroCells (Value.agg #[.int .i64 0,.int .i64 0]).cells (xs.length-m)).toList (m*2) w;refine⟨_,fun ty=>?_,?_,hg⟩
   ·obtain ⟨q,hq⟩:∃ q,xs.length-m=q+1:=⟨xs.length-m-1,by omega⟩;rw[hq]at hst ⊢
    simp[Builtin.clear_,run_underlying hu,hzv,hst,Result.andThen]
   ·obtain ⟨t0,inner',tw,tr⟩:=ht;refine⟨t0,inner',⟨tw.1,.inr ⟨g,c,cur',by rw[List.length_take,Nat.min_eq_left hm],hb,k1,?_,h2,by rw[k2,h3,hsz],?_⟩⟩,?_⟩
    ·rw [List.length_take];omega
    ·have hto:cur.toList.take ((xs.take m).length*k40.sz)=inner':=by
      obtain⟨_,⟨e',_⟩|⟨g',cap',cur2,e',_,hh',_,_,_,h4'⟩⟩:=tw
      ·cases e'
      ·have f1:some g=some g':=congrArg Value.ownBlock e';obtain rfl:=Option.some.inj f1;rw[hh]at hh';have hc2:cur=cur2:=by
        have:=Option.some.inj hh';simp only[Obj.cells.injEq]at this;exact this.1
       rw[hc2];exact h4'
     rw[← hto]
     apply List.ext_getElem?
     intro j;rw[List.length_take,Nat.min_eq_left hm,hsz]
     by_cases hj:j<m*2
     ·rw [List.getElem?_take_of_lt hj,List.getElem?_take_of_lt hj,Array.getElem?_toList,Array.getElem?_toList,k3 j hj]
     ·rw [List.getElem?_take_eq_none (by omega),List.getElem?_take_eq_none (by omega)]
    ·exact tr
theorem R_base40 {w:World} {base:Nat} {ok:Nat→Prop} {v:Value} {xs:List S40} (h:k40.R 40 w base ok v xs) (k:Nat) (hk:v.ownBlock=some k):base≤k:=by
 obtain⟨_,inner,ho,_⟩:=h;obtain⟨_,⟨e,_⟩|⟨g,cap,cur,e,hb,_⟩⟩:=ho
 ·rw [e]at hk;cases hk
 ·rw [e]at hk;obtain rfl:g=k:=Option.some.inj hk;exact hb
theorem below_grown40 {w0 w w1:World} {ok:Nat→Prop} {v:Value} {xs:List S40} (hB:Below w0.heap.size w0 w) (h:k40.R 40 w w0.heap.size ok v xs) (hg:w.grownBy w1 v.ownBlock):Below w0.heap.size w0 w1:=
 ⟨hg.os.trans hB.os,hg.tape.trans hB.tape,hg.output.trans hB.output,Nat.le_trans hB.size hg.size,fun k hk=>(hg.block k (Nat.lt_of_lt_of_le hk hB.size) (fun e=>absurd (R_base40 h k e.symm) (by omega))).trans (hB.block k hk)⟩
def api_Range_52.l0:Nat→List (S40)→Int→Int→Int→Option ((List (S40)))
 |0,_,_,_,_=>none
 |k+1,x0,x1,x5,x6=>if x6<(x0.length:Int)then(if 0≤x6 then((L_LayersIn_2.f ((rd_T40 x0 x6).f0) ((rd_T40 x0 x6).f1) x1).bind fun t411=>(if t411=true then(api_Range_52.l0 k x0 x1 x5 (wrap64 (x6+1)))else(if 0≤x5 then(if x5<(x0.length:Int)then(api_Range_52.l0 k (x0.set (x5:Int).toNat (⟨(rd_T40 x0 x6).f0,(rd_T40 x0 x6).f1⟩:S40)) x1 (wrap64 (x5+1)) (wrap64 (x6+1)))else(none))else(none))))else(none))else(if 0≤x5 then(if x5≤(x0.length:Int)then(some (x0.take (x5:Int).toNat))else(none))else(none))
def api_Range_52.f (k:Nat) (l0:List (S40)) (a1:Int):Option ((List (S40))):=(api_Range_81.f k l0 a1).bind fun t408=>(if t408=(-1)then(some l0)else(api_Range_52.l0 k l0 a1 t408 (wrap64 (t408+1))))
theorem api_Range_52.mono_l:∀ k,(∀ y0 y1 y2 y3,LeO (api_Range_52.l0 k y0 y1 y2 y3) (api_Range_52.l0 (k+1) y0 y1 y2 y3))
 |0=>fun _ _ _ _ r h=>by simp[api_Range_52.l0]at h
 | k+1=>by
  have ih0:=api_Range_52.mono_l k
  ·intro y0 y1 y2 y3;unfold api_Range_52.l0
   repeat' with_reducible first
    |exact ih0 ..
    |exact api_Range_81.mono ..
    |exact LeO.refl ..
    |exact LeO.none ..
    |refine LeO.ite ?_ ?_
    |refine LeO.bind ?_ (fun _=>?_)
theorem api_Range_52.mono:∀ a0 a1 k,LeO (api_Range_52.f k a0 a1) (api_Range_52.f (k+1) a0 a1):=by
 intro a0 a1 k;have ih0:=api_Range_52.mono_l k;unfold api_Range_52.f
 repeat' with_reducible first
  |exact ih0 ..
  |exact api_Range_81.mono ..
  |exact LeO.refl ..
  |exact LeO.none ..
  |refine LeO.ite ?_ ?_
  |refine LeO.bind ?_ (fun _=>?_)
theorem api_Range_52.calls (k:Nat) (P0_:Nat→Prop) (u9000_:Value) (l0:List (S40)) (a1:Int) (r:List (S40)) (B:Nat) (b0 b1:Int) (w0 w:World) (hbx:w.heap[B]?=some (.cells #[.int .i64 b0,.int .i64 b1,.int .i64 a1] 26 (0,0))) (hPB:¬ P0_ B) (hB:Below w0.heap.size w0 w) (ho0:Kd.R k40 40 w w0.heap.size P0_ u9000_ l0) (H:api_Range_52.f k l0 a1=some r):
  Calls Tryz.prog 52 #[u9000_,.func (.func 53) #[] #[.pointer (some ⟨B,0,none⟩)]] w fun e w'=>∃ v0_:Value,e= .returned (v0_)∧Kd.R k40 40 w' w0.heap.size (fun k_=>(P0_ k_∨w.heap.size≤k_)) v0_ r∧Below w0.heap.size w0 w'∧Kept w w' (fun k_=>P0_ k_):=by
 have hu40:=Tryz.underlying40;have HX:=m0 hbx;have HPB:=m0 hPB;clear hbx hPB;have HO0:=m0 (show Kd.R k40 40 w w0.heap.size (fun k_=>(P0_ k_∨w.heap.size≤k_)) u9000_ l0 from Kd.R_mono ho0 (fun k_ hk=>(.inl hk)));have HK:=m0 (Kept.refl w (fun k_=>P0_ k_));have HW0:=m0 hB.size;have HB:=m0 hB;clear hB;unfold api_Range_52.f at H;replace H:=oa H;obtain⟨t408,A3,H⟩:=H;(try dsimp only at H)
 by_cases c4:t408=(-1)
 ·rw [if_pos c4]at H;have c4b0:=beq_iff_eq.mpr c4;have c4b1:=bne_eq_false_iff_eq.mpr c4;clear c4;obtain rfl:=Option.some.inj H;obtain⟨Ao5,co5,eo5⟩:=Kd.R_slice HO0.out;subst eo5;go_enter Tryz.func52,Tryz.ntmps52
  go_wp2_with (first|((with_reducible refine gc 81 rfl ?_);refine gl (some 10) Tryz.func81 #[.slice Ao5 l0.length co5,.func (.func 53) #[] #[.pointer (some ⟨B,0,none⟩)]] ?_;(with_reducible refine(api_Range_81.calls k _ _ l0 a1 t408 B b0 b1 _ ?sideb ?side1 ?side2 A3.out).mono ?_);(case sideb=>exact(by(with_reducible repeat(first|refine blk_drewN ?_ _|refine blk_drew ?_|refine blk_alloc ?_ _));exact HX.out));(case side1=>exact bc (Kd.R_reads' HO0.out).2.2);(case side2=>exact(Kd.R_reads' HO0.out).2.1);rintro e w6 ⟨rfl,hb⟩;refine⟨_,rfl,?_⟩;replace HO0:=rb HO0 hb;replace HK:=m0 (Kept.below (S:=(fun k_=>P0_ k_)) (by repeat(first|(with_reducible first|exact HK.out|apply Kept.alloc|apply Kept.drewN|apply Kept.drew)|exact HK.out)) hb);replace HB:=sb HB hb;(try clear hb)))
  go_ret
  exact⟨_,by first|rfl|(simp[errW_none,errW_some]<;>rfl)|(simp[*,errW_none,errW_some]<;>rfl),by(with_reducible repeat(first|apply Kd.R_alloc|apply Kd.R_drewN|apply Kd.R_drew));exact HO0.out,by repeat(first|(with_reducible first|exact HB.out|apply below_alloc|apply pw_below_drewN|apply below_drew1)|exact HB.out),by repeat(first|(with_reducible first|exact HK.out|apply Kept.alloc|apply Kept.drewN|apply Kept.drew)|exact HK.out)⟩
 ·rw [if_neg c4]at H;have c4b0:=beq_eq_false_iff_ne.mpr c4;have c4b1:=bne_iff_ne.mpr c4;have H':=m0 H;clear H;obtain⟨Ao7,co7,eo7⟩:=Kd.R_slice HO0.out;subst eo7;go_enter Tryz.func52,Tryz.ntmps52
  go_wp2_with (first|((with_reducible refine gc 81 rfl ?_);refine gl (some 10) Tryz.func81 #[.slice Ao7 l0.length co7,.func (.func 53) #[] #[.pointer (some ⟨B,0,none⟩)]] ?_;(with_reducible refine(api_Range_81.calls k _ _ l0 a1 t408 B b0 b1 _ ?sideb ?side1 ?side2 A3.out).mono ?_);(case sideb=>exact(by(with_reducible repeat(first|refine blk_drewN ?_ _|refine blk_drew ?_|refine blk_alloc ?_ _));exact HX.out));(case side1=>exact bc (Kd.R_reads' HO0.out).2.2);(case side2=>exact(Kd.R_reads' HO0.out).2.1);rintro e w8 ⟨rfl,hb⟩;refine⟨_,rfl,?_⟩;replace HO0:=rb HO0 hb;replace HK:=m0 (Kept.below (S:=(fun k_=>P0_ k_)) (by repeat(first|(with_reducible first|exact HK.out|apply Kept.alloc|apply Kept.drewN|apply Kept.drew)|exact HK.out)) hb);replace HB:=sb HB hb;(try clear hb)))
  go_loopg [5,6] k (fun kq v5 v6 w'=>∃ (x0_1:List (S40)) (x5_1:Int) (x6_1:Int),v5= .int .i64 x5_1∧v6= .int .i64 x6_1∧Aside0 (api_Range_52.l0 kq x0_1 a1 x5_1 x6_1=some r)∧Aside0 (kq≤k)∧Aside0 (Kd.R k40 40 w' w0.heap.size (fun k_=>(P0_ k_∨w.heap.size≤k_)) (.slice Ao7 l0.length co7) x0_1)∧Aside0 (Kept w w' (fun k_=>P0_ k_))∧Aside0 (Below w0.heap.size w0 w'))
  case atStart=>exact⟨(l0),(t408),(wrap64 (t408+1)),rz,rz,H',⟨Nat.le_refl _⟩,⟨br HO0.out⟩,⟨by repeat(first|(with_reducible first|exact HK.out|apply Kept.alloc|apply Kept.drewN|apply Kept.drew)|exact HK.out)⟩,⟨bz⟩⟩
  case round=>
   clear H';obtain⟨x0_1,x5_1,x6_1,rfl,rfl,HA,HK1,HO_0,HK,HB⟩:=hrel;have hl0_1:=(Kd.R_reads' HO_0.out).1;rw[hl0_1]at HO_0;(try simp only[hl0_1])
   cases gk with
   |zero=>exact absurd HA.out (by simp[api_Range_52.l0])
   | succ k1=>
    have H:=HA.out;clear HA;simp only[api_Range_52.l0]at H
    by_cases c9:x6_1<(x0_1.length:Int)
    ·rw [if_pos c9]at H;have c9b0:=decide_eq_true c9;clear c9
     by_cases c10:0≤x6_1
     ·rw [if_pos c10]at H;have c10b0:=decide_eq_true c10;clear c10;replace H:=oa H;obtain⟨t411,A11,H⟩:=H;(try dsimp only at H)
      by_cases c12:t411=true
      ·subst c12;rw[if_pos rfl]at H;have H':=m0 H;clear H;have p409:0≤(x6_1:Int):=od;have q409:x6_1<(x0_1.length:Int):=od;obtain⟨ad409,e409,hx409_0,hx409_1⟩:=at_T40 (Kd.R_reads' HO_0.out).2.2 x6_1 p409 q409
       cases e409
       replace p409:=eq_true p409;replace q409:=eq_true q409
       go_wp2_with (first|((with_reducible refine ga 7 rfl ?_);refine be 7 40 #[.int .i64 0,.int .i64 0] ?_;intro gb410 hg w13 hbox hb;replace HO_0:=m0 (Kd.R_below (Kd.R_elderB (br HO_0.out) gb410 (Nat.le_of_eq hg.symm)) hb);have BK410:=m0 hbox;have GW410:=m0 ((by rw[hg];exact(by first|exact HK.out.1|exact(show Kept w _ (fun k_=>P0_ k_)from by repeat(first|(with_reducible first|exact HK.out|apply Kept.alloc|apply Kept.drewN|apply Kept.drew)|exact HK.out)).1):w.heap.size≤gb410));replace HK:=m0 (Kept.below (S:=(fun k_=>P0_ k_)) (by repeat(first|(with_reducible first|exact HK.out|apply Kept.alloc|apply Kept.drewN|apply Kept.drew)|exact HK.out)) hb);have GE410:=m0 ((by rw[hg];exact(below_size bz):w0.heap.size≤gb410));replace HB:=sb HB hb;clear hb hbox hg;obtain⟨_,_,_,_⟩:=b2 BK410)|((with_reducible refine gate_via_ (t:=26) rfl ?_);refine goesLC_ (some 28) rfl rfl 26 #[.pointer (some ⟨B,0,none⟩)] Tryz.func53 (by kernel_rfl) rfl #[.agg #[.int .i64 ((rd_T40 x0_1 x6_1).f0),.int .i64 ((rd_T40 x0_1 x6_1).f1)],.pointer (some ⟨B,0,none⟩)] rfl (by rfl) (by first|rfl|(simp;done)|(simp;rfl)) ?_;(with_reducible refine(L_LayersIn_2.calls ((rd_T40 x0_1 x6_1).f0) ((rd_T40 x0_1 x6_1).f1) a1 true B b0 b1 _ ?sideb A11.out).mono ?_);(case sideb=>exact(by(with_reducible repeat(first|refine blk_drewN ?_ _|refine blk_drew ?_|refine blk_alloc ?_ _));exact blk_kept HX.out (show Kept w _ (fun k_=>P0_ k_)from by repeat(first|(with_reducible first|exact HK.out|apply Kept.alloc|apply Kept.drewN|apply Kept.drew|refine Kept.setCell ?_ (.inr GW410.out) _)|exact HK.out)) HPB.out));rintro e w15 ⟨rfl,hb⟩;refine⟨_,rfl,?_⟩;replace HO_0:=m0 (Kd.R_below (by(with_reducible repeat(first|apply Kd.R_alloc|apply Kd.R_drewN|apply Kd.R_drew));exact(Kd.R_mono (rf (rf (rn gb410 HO_0.out (·.2)) (·.2)) (·.2)) (fun _ h_=>h_.1))) hb);replace BK410:=m0 (blk_below (g:=gb410) (o:= .cells #[.int .i64 ((rd_T40 x0_1 x6_1).f0),.int .i64 ((rd_T40 x0_1 x6_1).f1)] 40 (0,0)) (bq BK410.out) hb);replace HK:=m0 (Kept.below (S:=(fun k_=>P0_ k_)) (by repeat(first|(with_reducible first|exact HK.out|apply Kept.alloc|apply Kept.drewN|apply Kept.drew|refine Kept.setCell ?_ (.inr GW410.out) _)|exact HK.out)) hb);replace HB:=sb HB hb;(try clear hb)))
       (try simp only[← hl0_1])
       go_roundg k1
       case measure=>have:=HK1.out;omega
       case rel=>exact⟨(x0_1),(x5_1),(wrap64 (x6_1+1)),rz,rz,H',⟨by have:=HK1.out;omega⟩,⟨by (try simp only[hl0_1]);(with_reducible repeat(first|apply Kd.R_alloc|apply Kd.R_drewN|apply Kd.R_drew));exact Kd.R_mono HO_0.out (fun _ hk=>hk.1)⟩,⟨by repeat(first|(with_reducible first|exact HK.out|apply Kept.alloc|apply Kept.drewN|apply Kept.drew|refine Kept.setCell ?_ (.inr GW410.out) _)|exact HK.out)⟩,⟨bz⟩⟩
      ·replace c12:=Bool.eq_false_iff.mpr c12;subst c12;rw[if_neg (show ¬ (false=true) by decide)]at H
       by_cases c16:0≤x5_1
       ·rw [if_pos c16]at H;have c16b0:=decide_eq_true c16;clear c16
        by_cases c17:x5_1<(x0_1.length:Int)
        ·rw [if_pos c17]at H;have c17b0:=decide_eq_true c17;clear c17;obtain⟨y412,hy412⟩:∃ y_:List (S40),y_=(x0_1.set (x5_1:Int).toNat (⟨(rd_T40 x0_1 x6_1).f0,(rd_T40 x0_1 x6_1).f1⟩:S40)):=⟨_,rfl⟩;replace H:(api_Range_52.l0 k1 y412 a1 (wrap64 (x5_1+1)) (wrap64 (x6_1+1)))=some r:=by first|(rw[hy412];with_reducible exact H)|(have H2_:=(Option.bind_some _ _).symm.trans H;rw[hy412];with_reducible exact H2_)|(have H2_:=(Option.bind_some _ _).symm.trans H;with_reducible exact H2_)|with_reducible exact H|(rw[hy412];exact H)|exact H
         have Ny412:=m0 hy412;clear hy412;have H':=m0 H;clear H;have p409:0≤(x6_1:Int):=od;have q409:x6_1<(x0_1.length:Int):=od;obtain⟨ad409,e409,hx409_0,hx409_1⟩:=at_T40 (Kd.R_reads' HO_0.out).2.2 x6_1 p409 q409
         cases e409
         replace p409:=eq_true p409;replace q409:=eq_true q409
         go_wp2_with (first|((with_reducible refine ga 7 rfl ?_);refine be 7 40 #[.int .i64 0,.int .i64 0] ?_;intro gb410 hg w19 hbox hb;replace HO_0:=m0 (Kd.R_below (Kd.R_elderB (br HO_0.out) gb410 (Nat.le_of_eq hg.symm)) hb);have BK410:=m0 hbox;have GW410:=m0 ((by rw[hg];exact(by first|exact HK.out.1|exact(show Kept w _ (fun k_=>P0_ k_)from by repeat(first|(with_reducible first|exact HK.out|apply Kept.alloc|apply Kept.drewN|apply Kept.drew)|exact HK.out)).1):w.heap.size≤gb410));replace HK:=m0 (Kept.below (S:=(fun k_=>P0_ k_)) (by repeat(first|(with_reducible first|exact HK.out|apply Kept.alloc|apply Kept.drewN|apply Kept.drew)|exact HK.out)) hb);have GE410:=m0 ((by rw[hg];exact(below_size bz):w0.heap.size≤gb410));replace HB:=sb HB hb;clear hb hbox hg;obtain⟨_,_,_,_⟩:=b2 BK410)|((with_reducible refine gate_via_ (t:=26) rfl ?_);refine goesLC_ (some 28) rfl rfl 26 #[.pointer (some ⟨B,0,none⟩)] Tryz.func53 (by kernel_rfl) rfl #[.agg #[.int .i64 ((rd_T40 x0_1 x6_1).f0),.int .i64 ((rd_T40 x0_1 x6_1).f1)],.pointer (some ⟨B,0,none⟩)] rfl (by rfl) (by first|rfl|(simp;done)|(simp;rfl)) ?_;(with_reducible refine(L_LayersIn_2.calls ((rd_T40 x0_1 x6_1).f0) ((rd_T40 x0_1 x6_1).f1) a1 false B b0 b1 _ ?sideb A11.out).mono ?_);(case sideb=>exact(by(with_reducible repeat(first|refine blk_drewN ?_ _|refine blk_drew ?_|refine blk_alloc ?_ _));exact blk_kept HX.out (show Kept w _ (fun k_=>P0_ k_)from by repeat(first|(with_reducible first|exact HK.out|apply Kept.alloc|apply Kept.drewN|apply Kept.drew|refine Kept.setCell ?_ (.inr GW410.out) _)|exact HK.out)) HPB.out));rintro e w21 ⟨rfl,hb⟩;refine⟨_,rfl,?_⟩;replace HO_0:=m0 (Kd.R_below (by(with_reducible repeat(first|apply Kd.R_alloc|apply Kd.R_drewN|apply Kd.R_drew));exact(Kd.R_mono (rf (rf (rn gb410 HO_0.out (·.2)) (·.2)) (·.2)) (fun _ h_=>h_.1))) hb);replace BK410:=m0 (blk_below (g:=gb410) (o:= .cells #[.int .i64 ((rd_T40 x0_1 x6_1).f0),.int .i64 ((rd_T40 x0_1 x6_1).f1)] 40 (0,0)) (bq BK410.out) hb);replace HK:=m0 (Kept.below (S:=(fun k_=>P0_ k_)) (by repeat(first|(with_reducible first|exact HK.out|apply Kept.alloc|apply Kept.drewN|apply Kept.drew|refine Kept.setCell ?_ (.inr GW410.out) _)|exact HK.out)) hb);replace HB:=sb HB hb;(try clear hb);obtain⟨_,_,_,_⟩:=b2 BK410;have p18:0≤(x5_1:Int):=od;have q18:(x5_1:Int)<((x0_1.length:Int):Int):=od;obtain⟨go18,co18,eo18,gb18,gl18,cl18,HG18⟩:=Kd.R_form HO_0.out (by omega);(first|cases eo18|(injection eo18 with ea_ en_ ec_;(first|subst ea_|(injection ea_ with ea_;subst ea_));subst ec_;clear en_));have GB18:=m0 gb18;have GG18:=m0 HG18;clear gb18 gl18 HG18;have HMgo18:=m0 (show(P0_ go18∨w.heap.size≤go18)from(HO_0.out.1 _ rfl).1);(first|simp only[add_plain]at hx409_0|skip);(first|simp only[add_plain]at hx409_1|skip);obtain⟨ce18,hcl18,hM18,hcc18,hfr18⟩:=Kd.R_elem HO_0.out z40 (x5_1:Int) p18 q18;obtain rfl:=k40_openM hM18;have hx18_0:w21.cell? ⟨go18,(x5_1:Int).toNat*2,none⟩=some (.int .i64 ((rd_T40 x0_1 x5_1).f0)):=hcc18 0 _ rfl;have hx18_1:w21.cell? ⟨go18,(x5_1:Int).toNat*2+1,none⟩=some (.int .i64 ((rd_T40 x0_1 x5_1).f1)):=hcc18 1 _ rfl;have hf18_0:w21.frozen? ⟨go18,(x5_1:Int).toNat*2,none⟩=false:=hfr18 0;have hf18_1:w21.frozen? ⟨go18,(x5_1:Int).toNat*2+1,none⟩=false:=hfr18 1;clear hcl18 hcc18 hfr18 hM18;replace p18:=eq_true p18;replace q18:=eq_true q18;have HX23:=m0 (show Kd.R k40 40 w21 w0.heap.size (fun k_=>(P0_ k_∨w.heap.size≤k_)∧k_≠gb410) (.slice (some ⟨go18,0,none⟩) x0_1.length co7) x0_1 from(br HO_0.out));obtain⟨ce23,hcl23,hM23,hcc23,hfr23⟩:=Kd.R_elem HX23.out z40 (x5_1:Int) (od) (by have h_:(x5_1:Int)<((x0_1.length:Int):Int):=od;first|exact h_|(have e_:=(Kd.R_reads' HO_0.out).1;omega)|simpa using h_);obtain rfl:=k40_openM hM23;have HP23:=Kd.R_seg HX23.out (x5_1:Int) (od) (by have h_:(x5_1:Int)<((x0_1.length:Int):Int):=od;first|exact h_|(have e_:=(Kd.R_reads' HO_0.out).1;omega)|simpa using h_) (seg:=[.int .i64 ((rd_T40 x0_1 x6_1).f0),.int .i64 ((rd_T40 x0_1 x6_1).f1)]) (j:=0) hcl23 hcc23 (show 2≤2 from by decide) (x':=(⟨(rd_T40 x0_1 x6_1).f0,(rd_T40 x0_1 x6_1).f1⟩:S40)) (k40_mkM _ _ _ (⟨(rd_T40 x0_1 x6_1).f0,(rd_T40 x0_1 x6_1).f1⟩:S40) ) (fun _ hk=>hk);have hx23_0:=hcc23 0 _ rfl;(try simp only[show (k40).sz=2 from rfl,Nat.mul_one,Nat.add_zero]at hx23_0);have hf23_0:=hfr23 0;(try simp only[show (k40).sz=2 from rfl,Nat.mul_one,Nat.add_zero]at hf23_0);have hx23_1:=hcc23 1 _ rfl;(try simp only[show (k40).sz=2 from rfl,Nat.mul_one,Nat.add_zero]at hx23_1);have hf23_1:=hfr23 1;(try simp only[show (k40).sz=2 from rfl,Nat.mul_one,Nat.add_zero]at hf23_1);clear hcl23 hcc23 hfr23 hM23)|((with_reducible refine gate_store (t:=40) (p:=33) rfl ?_);refine store_event (t:=40) (p:=33) (v:= ?vo_w24) (w1:=((w21.setCell ⟨go18,(x5_1:Int).toNat*2,none⟩ (.int .i64 ((rd_T40 x0_1 x6_1).f0))).setCell ⟨go18,(x5_1:Int).toNat*2+1,none⟩ (.int .i64 ((rd_T40 x0_1 x6_1).f1)))) ?hg ?ho ?hn ?hr ?_;(case ho=>rfl);(case hg=>rfl);(case hn=>rfl);(case hr=>first|(go_simp;done)|(go_simp;rfl));intro w24 hw;have hg:w21.grownBy w24 (some go18):=(by rw[hw];exact HP23.2);have hp_:Kd.R k40 40 w24 w0.heap.size (fun k_=>(P0_ k_∨w.heap.size≤k_)∧k_≠gb410) (.slice (some ⟨go18,0,none⟩) x0_1.length co7) y412:=(by rw[hw,Ny412.out];exact HP23.1);clear HP23;replace BK410:=m0 (blk_grown (g:=gb410) (o:= .cells #[.int .i64 ((rd_T40 x0_1 x6_1).f0),.int .i64 ((rd_T40 x0_1 x6_1).f1)] 40 (0,0)) (bk BK410.out) hg (Kd.R_away HO_0.out (fun _ hk=>hk.2)));replace HB:=m0 ((by rw[hw];exact below_set (below_set (HB.out) GB18.out) GB18.out:Below w0.heap.size w0 w24));replace HK:=m0 (Kept.of_grown (S:=(fun k_=>P0_ k_)) hg (by repeat(first|(with_reducible first|exact HK.out|apply Kept.alloc|apply Kept.drewN|apply Kept.drew|refine Kept.setCell ?_ (.inr GW410.out) _)|exact HK.out)) (fun k_ e_=>(HO_0.out.1 k_ e_).1));replace HO_0:=m0 (hp_);clear hg hw hp_))
         (try simp only[← hl0_1])
         go_roundg k1
         case measure=>have:=HK1.out;omega
         case rel=>exact⟨(y412),(wrap64 (x5_1+1)),(wrap64 (x6_1+1)),rz,rz,H',⟨by have:=HK1.out;omega⟩,⟨by (try simp only[hl0_1]);(with_reducible repeat(first|apply Kd.R_alloc|apply Kd.R_drewN|apply Kd.R_drew));exact Kd.R_mono HO_0.out (fun _ hk=>hk.1)⟩,⟨by repeat(first|(with_reducible first|exact HK.out|apply Kept.alloc|apply Kept.drewN|apply Kept.drew|refine Kept.setCell ?_ (.inr GW410.out) _)|exact HK.out)⟩,⟨bz⟩⟩
        ·rw [if_neg c17]at H;exact absurd H (by simp)
       ·rw [if_neg c16]at H;exact absurd H (by simp)
     ·rw [if_neg c10]at H;exact absurd H (by simp)
    ·rw [if_neg c9]at H;have c9b0:=decide_eq_false c9;clear c9
     by_cases c25:0≤x5_1
     ·rw [if_pos c25]at H;have c25b0:=eq_true c25;have c25b1:=decide_eq_true c25;clear c25
      by_cases c26:x5_1≤(x0_1.length:Int)
      ·rw [if_pos c26]at H;have c26b0:=eq_true c26;have c26b1:=decide_eq_true c26;clear c26;obtain⟨y413,hy413⟩:∃ y_:List (S40),y_=(x0_1.take (x5_1:Int).toNat):=⟨_,rfl⟩;replace H:(some y413)=some r:=by first|(rw[hy413];with_reducible exact H)|(have H2_:=(Option.bind_some _ _).symm.trans H;rw[hy413];with_reducible exact H2_)|(have H2_:=(Option.bind_some _ _).symm.trans H;with_reducible exact H2_)|with_reducible exact H|(rw[hy413];exact H)|exact H
       have Ny413:=m0 hy413;clear hy413;obtain rfl:=Option.some.inj H;have q27:(x5_1:Int)≤((x0_1.length:Int):Int):=od;obtain⟨i027,hi027,_,hsz27,_⟩:=info_parts info40;have hcut27:=cut_to (P:=Tryz.prog) 34 40 .i64 Tryz.underlying34 hi027 Ao7 x0_1.length co7 x5_1 (od) q27 (Kd.R_reads' HO_0.out).2.1;have hcutf:=cut_from (P:=Tryz.prog) 34 40 .i64 Tryz.underlying34 hi027 2 hsz27 Ao7 x0_1.length co7 x5_1 (od) q27;obtain⟨w50,hclr,hr27,hgr50⟩:=clear_tail40 (x5_1:Int).toNat HO_0.out (by omega);have n0_:=m0 (Kept.of_grown hgr50 HK.out (fun k hk=>HO_0.out.1 k hk));have n1_:=m0 (below_grown40 HB.out HO_0.out hgr50);clear HK HB hgr50;have HK:=n0_;have HB:=n1_;clear n0_ n1_;generalize (if co7=(x5_1:Int).toNat then Ao7 else Ao7.map (·.add ((x5_1:Int).toNat*2)))=Ac at hcutf hclr;generalize x0_1.length-(x5_1:Int).toNat=nc at hcutf hclr;generalize co7-(x5_1:Int).toNat=cc at hcutf hclr;have hy27:y413.length=(x5_1:Int).toNat:=(by rw[Ny413.out,List.length_take];omega);rw[← Ny413.out]at hr27;rw[← hy27]at hr27 hcut27;clear hy27 hi027 hsz27 HO_0;have HO415:=m0 hr27;clear hr27;replace q27:=eq_true q27
       go_wp2
       go_ret
       exact⟨_,by first|rfl|(simp[errW_none,errW_some]<;>rfl)|(simp[*,errW_none,errW_some]<;>rfl),by(with_reducible repeat(first|apply Kd.R_alloc|apply Kd.R_drewN|apply Kd.R_drew));exact HO415.out,by repeat(first|(with_reducible first|exact HB.out|apply below_alloc|apply pw_below_drewN|apply below_drew1)|exact HB.out),by repeat(first|(with_reducible first|exact HK.out|apply Kept.alloc|apply Kept.drewN|apply Kept.drew)|exact HK.out)⟩
      ·rw [if_neg c26]at H;exact absurd H (by simp)
     ·rw [if_neg c25]at H;exact absurd H (by simp)
end
end Go.Proofs.YteiafijbgjgiaaaGreat.A
