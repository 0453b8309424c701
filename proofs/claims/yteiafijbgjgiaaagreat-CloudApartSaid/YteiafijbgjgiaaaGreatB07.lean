/- Walks of the program's functions (printed, made shorter), each with what it computes. -/
import Derived.Test.YteiafijbgjgiaaaGreatB06
import Derived.LoopIn
import Derived.LoopNIn
import Derived.OwnWalkIn
import Derived.RangeFuncBound
import Derived.RangeFuncBox
import Derived.RangeFuncCalls
import Derived.RangeFuncFrom
import Derived.RangeFuncLeaves
import Derived.RangeFuncNested
import Derived.Shelf.Abstract
import Derived.TacticsInMore
namespace Go.Proofs.YteiafijbgjgiaaaGreat.A
set_option maxHeartbeats 8000000
set_option maxRecDepth 100000
open Go.RowKit Go.Proofs.YteiafijbgjgiaaaGreatW.PrintWords Go.Proofs.YteiafijbgjgiaaaGreatW.PrintLast Go.Proofs.YteiafijbgjgiaaaGreatW.PrintMore
attribute [local go_sem] max2_int min2_int max_two min_two max_three min_three max_four min_four
set_option linter.unusedVariables false
set_option linter.unusedSimpArgs false
section
def L_CheckProfile.f (k:Nat) (l0:List Int):Option (Int×Int):=(L_unless.f (decide ((l0.length:Int)>0)) 10).bind fun t109=>((L_unless.f (decide ((l0.length:Int)≤24)) 8).bind fun t110=>((L_first.f k (([t109,t110]:List Int))).bind fun t114=>(if t114=0 then((L_each_int_CheckProfile_1.f k l0).bind fun bt115=>(some (bt115.1,bt115.2)))else(some (0,t114)))))
theorem L_CheckProfile.mono:∀ a0 k,LeO (L_CheckProfile.f k a0) (L_CheckProfile.f (k+1) a0):=by
 intro a0 k;unfold L_CheckProfile.f
 repeat' with_reducible first
  |exact L_each_int_CheckProfile_1.mono ..
  |exact L_first.mono ..
  |exact LeO.refl ..
  |exact LeO.none ..
  |refine LeO.ite ?_ ?_
  |refine LeO.bind ?_ (fun _=>?_)
theorem L_CheckProfile.calls (k:Nat) (A0:Option Addr) (c0:Nat) (l0:List Int) (r1:Int) (r2:Int) (w:World) (hr0:Kd.C (Kd.int .i64) w A0 l0.length l0) (hc0:l0.length≤c0) (H:L_CheckProfile.f k l0=some (r1,r2)):
  Calls Tryz.prog 80 #[.slice A0 l0.length c0] w fun e w'=>e= .returned (.tuple #[.int .i64 r1,.int .i64 r2])∧Below w.heap.size w w':=by
 have HR0:=m0 hr0;have HC0:=m0 hc0;clear hr0 hc0;have HB:=m0 (Below.refl w.heap.size w);unfold L_CheckProfile.f at H;replace H:=oa H;obtain⟨t109,A2,H⟩:=H;(try dsimp only at H);replace H:=oa H;obtain⟨t110,A3,H⟩:=H;(try dsimp only at H);obtain⟨y111,hy111⟩:∃ y_:List Int,y_=(([t109,t110]:List Int)):=⟨_,rfl⟩;replace H:((L_first.f k y111).bind fun t114=>(if t114=0 then((L_each_int_CheckProfile_1.f k l0).bind fun bt115=>(some (bt115.1,bt115.2)))else(some (0,t114))))=some (r1,r2):=by first|(rw[hy111];with_reducible exact H)|(have H2_:=(Option.bind_some _ _).symm.trans H;rw[hy111];with_reducible exact H2_)|(have H2_:=(Option.bind_some _ _).symm.trans H;with_reducible exact H2_)|with_reducible exact H|(rw[hy111];exact H)|exact H
 have Ny111:=m0 hy111;clear hy111;replace H:=oa H;obtain⟨t114,A4,H⟩:=H;(try dsimp only at H)
 by_cases c5:t114=0
 ·rw [if_pos c5]at H;have c5b0:=beq_iff_eq.mpr c5;have c5b1:=bne_eq_false_iff_eq.mpr c5;clear c5;replace H:=oa H;obtain⟨⟨t115,t116⟩,A6,H⟩:=H;(try dsimp only at H);simp only[Option.some.injEq,Prod.mk.injEq]at H;obtain⟨rfl,rfl⟩:=H;go_enter Tryz.func80,Tryz.ntmps80
  go_wp2_with (first|((with_reducible refine gc 49 rfl ?_);refine goesL_ (some 8) rfl rfl Tryz.func49 (by kernel_rfl) rfl #[.bool (decide ((l0.length:Int)>0)),.int .i64 10] rfl (by(try simp only[List.map_toArray,List.map_cons,List.map_nil]);first|done|rfl|(simp only[List.length_drop,List.length_take];rfl)|(simp;first|done|exact⟨rfl,rfl⟩)) ?_;(with_reducible refine(L_unless.calls (decide ((l0.length:Int)>0)) 10 t109 _ A2.out).mono ?_);rintro e w' ⟨rfl,⟨nd,rfl⟩⟩;refine⟨_,rfl,?_⟩)|((with_reducible refine gc 49 rfl ?_);refine gl (some 12) Tryz.func49 #[.bool (decide ((l0.length:Int)≤24)),.int .i64 8] ?_;(with_reducible refine(L_unless.calls (decide ((l0.length:Int)≤24)) 8 t110 _ A3.out).mono ?_);rintro e w' ⟨rfl,⟨nd,rfl⟩⟩;refine⟨_,rfl,?_⟩)|((with_reducible refine ga 13 rfl ?_);refine Kd.R_lit (Kd.int .i64) _ 35 ?hg (N:=13) ?hd (xs:=([t109,t110]:List Int)) (inner:=[.int .i64 t109,.int .i64 t110]) (ok:=fun _=>True) (okp:=fun _=>True) ?hr ?hp (fun _ hk=>hk) trivial (Below.refl _ _) (Nat.le_refl _) (by simp) ?_;(case hd=>rfl);(case hg=>rfl);(case hr=>first|(go_simp;done)|(go_simp;rfl));(case hp=>exact(Reps.one (ki t109) (Reps.one (ki t110) (Reps.none _ _))));intro v112 w7 ho8 hb hg_ hnew_;clear hg_ hnew_;(first|rw[← Ny111.out]at ho8|(simp only[Int.reduceToNat]at ho8;rw[← Ny111.out]at ho8));have HO113:=m0 (Kd.R_lower ho8 (below_size bz));replace HB:=sb HB hb;clear hb ho8;obtain⟨Ao9,co9,eo9⟩:=Kd.R_slice HO113.out;subst eo9)|((with_reducible refine gc 48 rfl ?_);refine gl (some 14) Tryz.func48 #[.slice Ao9 y111.length co9] ?_;(with_reducible refine(L_first.calls k _ _ y111 t114 _ ?side1 ?side2 A4.out).mono ?_);(case side1=>exact bc (Kd.R_reads' HO113.out).2.2);(case side2=>exact(Kd.R_reads' HO113.out).2.1);rintro e w' ⟨rfl,⟨nd,rfl⟩⟩;refine⟨_,rfl,?_⟩)|((with_reducible refine gc 114 rfl ?_);refine gl (some 19) Tryz.func114 #[.slice A0 l0.length c0,.func (.func 115) #[] #[]] ?_;(with_reducible refine(L_each_int_CheckProfile_1.calls k _ _ l0  t115 t116 _ ?side1 ?side2 A6.out).mono ?_);(case side1=>repeat(first|exact(Kd.C_below HR0.out bz)|(with_reducible refine Kd.C_alloc ?_ _)|(with_reducible refine Kd.C_drewN ?_ _)|(with_reducible refine Kd.C_drew ?_)));(case side2=>exact HC0.out);rintro e w' ⟨rfl,⟨nd,rfl⟩⟩;refine⟨_,rfl,?_⟩))
  go_ret2
  exact ez
 ·rw [if_neg c5]at H;have c5b0:=beq_eq_false_iff_ne.mpr c5;have c5b1:=bne_iff_ne.mpr c5;simp only[Option.some.injEq,Prod.mk.injEq]at H;obtain⟨rfl,rfl⟩:=H;go_enter Tryz.func80,Tryz.ntmps80
  go_wp2_with (first|((with_reducible refine gc 49 rfl ?_);refine goesL_ (some 8) rfl rfl Tryz.func49 (by kernel_rfl) rfl #[.bool (decide ((l0.length:Int)>0)),.int .i64 10] rfl (by(try simp only[List.map_toArray,List.map_cons,List.map_nil]);first|done|rfl|(simp only[List.length_drop,List.length_take];rfl)|(simp;first|done|exact⟨rfl,rfl⟩)) ?_;(with_reducible refine(L_unless.calls (decide ((l0.length:Int)>0)) 10 t109 _ A2.out).mono ?_);rintro e w' ⟨rfl,⟨nd,rfl⟩⟩;refine⟨_,rfl,?_⟩)|((with_reducible refine gc 49 rfl ?_);refine gl (some 12) Tryz.func49 #[.bool (decide ((l0.length:Int)≤24)),.int .i64 8] ?_;(with_reducible refine(L_unless.calls (decide ((l0.length:Int)≤24)) 8 t110 _ A3.out).mono ?_);rintro e w' ⟨rfl,⟨nd,rfl⟩⟩;refine⟨_,rfl,?_⟩)|((with_reducible refine ga 13 rfl ?_);refine Kd.R_lit (Kd.int .i64) _ 35 ?hg (N:=13) ?hd (xs:=([t109,t110]:List Int)) (inner:=[.int .i64 t109,.int .i64 t110]) (ok:=fun _=>True) (okp:=fun _=>True) ?hr ?hp (fun _ hk=>hk) trivial (Below.refl _ _) (Nat.le_refl _) (by simp) ?_;(case hd=>rfl);(case hg=>rfl);(case hr=>first|(go_simp;done)|(go_simp;rfl));(case hp=>exact(Reps.one (ki t109) (Reps.one (ki t110) (Reps.none _ _))));intro v112 w10 ho11 hb hg_ hnew_;clear hg_ hnew_;(first|rw[← Ny111.out]at ho11|(simp only[Int.reduceToNat]at ho11;rw[← Ny111.out]at ho11));have HO113:=m0 (Kd.R_lower ho11 (below_size bz));replace HB:=sb HB hb;clear hb ho11;obtain⟨Ao12,co12,eo12⟩:=Kd.R_slice HO113.out;subst eo12)|((with_reducible refine gc 48 rfl ?_);refine gl (some 14) Tryz.func48 #[.slice Ao12 y111.length co12] ?_;(with_reducible refine(L_first.calls k _ _ y111 t114 _ ?side1 ?side2 A4.out).mono ?_);(case side1=>exact bc (Kd.R_reads' HO113.out).2.2);(case side2=>exact(Kd.R_reads' HO113.out).2.1);rintro e w' ⟨rfl,⟨nd,rfl⟩⟩;refine⟨_,rfl,?_⟩))
  go_ret2
  exact ez
end
section
def L_open.f (k:Nat) (l0:List Int):Option (List Int×Int):=(L_CheckProfile.f k l0).bind fun bt117=>(some (l0,bt117.2))
theorem L_open.mono:∀ a0 k,LeO (L_open.f k a0) (L_open.f (k+1) a0):=by
 intro a0 k;unfold L_open.f
 repeat' with_reducible first
  |exact L_CheckProfile.mono ..
  |exact LeO.refl ..
  |exact LeO.none ..
  |refine LeO.ite ?_ ?_
  |refine LeO.bind ?_ (fun _=>?_)
theorem L_open.calls (k:Nat) (P0_:Nat→Prop) (A0:Option Addr) (c0:Nat) (l0:List Int) (r1:List Int) (r2:Int) (w:World) (hs0:Kd.V (Kd.int .i64) 3 w w.heap.size (fun k_=>P0_ k_) (.slice A0 l0.length c0) l0) (H:L_open.f k l0=some (r1,r2)):
  Calls Tryz.prog 45 #[.slice A0 l0.length c0] w fun e w'=>∃ v0_:Value,e= .returned (.tuple #[v0_,.int .i64 r2])∧Kd.V (Kd.int .i64) 3 w' w.heap.size (fun k_=>(P0_ k_∨w.heap.size≤k_)) v0_ r1∧Below w.heap.size w w':=by
 have HO0:=m0 (show Kd.V (Kd.int .i64) 3 w w.heap.size (fun k_=>(P0_ k_∨w.heap.size≤k_)) (.slice A0 l0.length c0) l0 from Kd.V_mono hs0 (fun k_ hk=> .inl hk));have HB:=m0 (Below.refl w.heap.size w);unfold L_open.f at H;replace H:=oa H;obtain⟨⟨t117,t118⟩,A2,H⟩:=H;(try dsimp only at H);simp only[Option.some.injEq,Prod.mk.injEq]at H;obtain⟨rfl,rfl⟩:=H;go_enter Tryz.func45,Tryz.ntmps45
 go_wp2_with (first|((with_reducible refine gc 80 rfl ?_);refine gl (some 8) Tryz.func80 #[.slice A0 l0.length c0] ?_;(with_reducible refine(L_CheckProfile.calls k _ _ l0 t117 t118 _ ?side1 ?side2 A2.out).mono ?_);(case side1=>exact bc (Kd.V_reads' HO0.out).2.2);(case side2=>exact(Kd.V_reads' HO0.out).2.1);rintro e w3 ⟨rfl,hb⟩;refine⟨_,rfl,?_⟩;replace HO0:=vb HO0 hb;replace HB:=sb HB hb;(try clear hb)))
 go_ret2
 exact⟨_,by first|rfl|(simp[errW_none,errW_some]<;>rfl)|(simp[*,errW_none,errW_some]<;>rfl),by(with_reducible repeat(first|apply Kd.V_alloc|apply Kd.V_drewN|apply Kd.V_drew));exact HO0.out,by repeat(first|(with_reducible first|exact HB.out|apply below_alloc|apply pw_below_drewN|apply below_drew1)|exact HB.out)⟩
end
section
def L_isConstant.f (a0:Int):Option (Bool):=(L_within.f a0 1 1000000).bind fun t119=>(some t119)
theorem L_isConstant.calls (a0:Int) (r:Bool) (w:World) (H:L_isConstant.f a0=some r):
  Calls Tryz.prog 83 #[.int .i64 a0] w fun e w'=>e= .returned (.bool r)∧Drawn0 w w':=by
 unfold L_isConstant.f at H;replace H:=oa H;obtain⟨t119,A2,H⟩:=H;(try dsimp only at H);obtain rfl:=Option.some.inj H;go_enter Tryz.func83,Tryz.ntmps83
 go_wp2_with (first|((with_reducible refine gc 46 rfl ?_);refine gl (some 4) Tryz.func46 #[.int .i64 a0,.int .i64 1,.int .i64 1000000] ?_;(with_reducible refine(L_within.calls a0 1 1000000 t119 _ A2.out).mono ?_);rintro e w' ⟨rfl,⟨nd,rfl⟩⟩;refine⟨_,rfl,?_⟩))
 go_ret
 exact⟨rz,by repeat(first|exact Drawn0.refl _|apply Drawn0.step)⟩
end
section
def L_constantErr.f (a0:Int):Option (Int):=(L_isConstant.f a0).bind fun t120=>((L_unless.f t120 2).bind fun t121=>(some t121))
theorem L_constantErr.calls (a0:Int) (r:Int) (w:World) (H:L_constantErr.f a0=some r):
  Calls Tryz.prog 55 #[.int .i64 a0] w fun e w'=>e= .returned (.int .i64 r)∧Drawn0 w w':=by
 unfold L_constantErr.f at H;replace H:=oa H;obtain⟨t120,A2,H⟩:=H;(try dsimp only at H);replace H:=oa H;obtain⟨t121,A3,H⟩:=H;(try dsimp only at H);obtain rfl:=Option.some.inj H;go_enter Tryz.func55,Tryz.ntmps55
 go_wp2_with (first|((with_reducible refine gc 83 rfl ?_);refine gl (some 4) Tryz.func83 #[.int .i64 a0] ?_;(with_reducible refine(L_isConstant.calls a0 t120 _ A2.out).mono ?_);rintro e w' ⟨rfl,⟨nd,rfl⟩⟩;refine⟨_,rfl,?_⟩)|((with_reducible refine gc 49 rfl ?_);refine gl (some 5) Tryz.func49 #[.bool t120,.int .i64 2] ?_;(with_reducible refine(L_unless.calls t120 2 t121 _ A3.out).mono ?_);rintro e w' ⟨rfl,⟨nd,rfl⟩⟩;refine⟨_,rfl,?_⟩))
 go_ret
 exact⟨rz,by repeat(first|exact Drawn0.refl _|apply Drawn0.step)⟩
end
section
def L_profile_sum.l0:Nat→Int→List Int→Int→Int→Option (Int)
 |0,_,_,_,_=>none
 |k+1,x3,x6,x7,x8=>if x8<x7 then(if 0≤x8 then(if x8<(x6.length:Int)then(L_profile_sum.l0 k (wrap64 (x3+(rd x6 x8))) x6 x7 (wrap64 (x8+1)))else(none))else(none))else(some x3)
def L_profile_sum.f (k:Nat) (l0:List Int):Option (Int):=L_profile_sum.l0 k 0 l0 (l0.length:Int) 0
theorem L_profile_sum.mono_l:∀ k,(∀ y0 y1 y2 y3,LeO (L_profile_sum.l0 k y0 y1 y2 y3) (L_profile_sum.l0 (k+1) y0 y1 y2 y3))
 |0=>fun _ _ _ _ r h=>by simp[L_profile_sum.l0]at h
 | k+1=>by
  have ih0:=L_profile_sum.mono_l k
  ·intro y0 y1 y2 y3;unfold L_profile_sum.l0
   repeat' with_reducible first
    |exact ih0 ..
    |exact LeO.refl ..
    |exact LeO.none ..
    |refine LeO.ite ?_ ?_
    |refine LeO.bind ?_ (fun _=>?_)
theorem L_profile_sum.mono:∀ a0 k,LeO (L_profile_sum.f k a0) (L_profile_sum.f (k+1) a0):=by
 intro a0 k;have ih0:=L_profile_sum.mono_l k;unfold L_profile_sum.f
 repeat' with_reducible first
  |exact ih0 ..
  |exact LeO.refl ..
  |exact LeO.none ..
  |refine LeO.ite ?_ ?_
  |refine LeO.bind ?_ (fun _=>?_)
theorem L_profile_sum.calls (k:Nat) (A0:Option Addr) (c0:Nat) (l0:List Int) (r:Int) (w:World) (hr0:Kd.C (Kd.int .i64) w A0 l0.length l0) (hc0:l0.length≤c0) (H:L_profile_sum.f k l0=some r):
  Calls Tryz.prog 57 #[.slice A0 l0.length c0] w fun e w'=>e= .returned (.int .i64 r)∧Drawn0 w w':=by
 have HR0:=m0 hr0;have HC0:=m0 hc0;clear hr0 hc0;unfold L_profile_sum.f at H;have H':=m0 H;clear H;go_enter Tryz.func57,Tryz.ntmps57
 go_wp2
 go_loopg [3,8] k (fun kq v3 v8 w'=>∃ (x3_1:Int) (x8_1:Int),v3= .int .i64 x3_1∧v8= .int .i64 x8_1∧Aside0 (L_profile_sum.l0 kq x3_1 l0 (l0.length:Int) x8_1=some r)∧Aside0 (kq≤k)∧Drawn0 w w')
 case atStart=>exact⟨(0),(0),rz,rz,H',⟨Nat.le_refl _⟩,by repeat(first|exact Drawn0.refl _|apply Drawn0.step)⟩
 case round=>
  clear H';obtain⟨x3_1,x8_1,rfl,rfl,HA,HK1,⟨m1,rfl⟩⟩:=hrel
  cases gk with
  |zero=>exact absurd HA.out (by simp[L_profile_sum.l0])
  | succ k1=>
   have H:=HA.out;clear HA;simp only[L_profile_sum.l0]at H
   by_cases c2:x8_1<(l0.length:Int)
   ·rw [if_pos c2]at H;have c2b0:=decide_eq_true c2;clear c2
    by_cases c3:0≤x8_1
    ·rw [if_pos c3]at H;have c3b0:=decide_eq_true c3;clear c3
     by_cases c4:x8_1<(l0.length:Int)
     ·rw [if_pos c4]at H;have c4b0:=decide_eq_true c4;clear c4;have H':=m0 H;clear H;have p122:0≤(x8_1:Int):=od;have q122:x8_1<(l0.length:Int):=od;obtain⟨ad122,e122,hx122_0⟩:=Kd.at_int HR0.out x8_1 p122 q122
      cases e122
      replace p122:=eq_true p122;replace q122:=eq_true q122
      go_wp2
      go_roundg k1
      case measure=>have:=HK1.out;omega
      case rel=>exact⟨(wrap64 (x3_1+(rd l0 x8_1))),(wrap64 (x8_1+1)),rz,rz,H',⟨by have:=HK1.out;omega⟩,by repeat(first|exact Drawn0.refl _|apply Drawn0.step)⟩
     ·rw [if_neg c4]at H;exact absurd H (by simp)
    ·rw [if_neg c3]at H;exact absurd H (by simp)
   ·rw [if_neg c2]at H;have c2b0:=decide_eq_false c2;clear c2;obtain rfl:=Option.some.inj H
    go_wp2
    go_ret
    exact⟨rz,by repeat(first|exact Drawn0.refl _|apply Drawn0.step)⟩
end
section
def L_divisor.l0:Nat→Int→Int→Option (Int)
 |0,_,_=>none
 |k+1,x0,x1=>if x1=0 then(some (mx x0 (wrap64 (-x0))))else(L_divisor.l0 k x1 (Int.tmod x0 x1))
def L_divisor.f (k:Nat) (a0:Int) (a1:Int):Option (Int):=L_divisor.l0 k a0 a1
theorem L_divisor.mono_l:∀ k,(∀ y0 y1,LeO (L_divisor.l0 k y0 y1) (L_divisor.l0 (k+1) y0 y1))
 |0=>fun _ _ r h=>by simp[L_divisor.l0]at h
 | k+1=>by
  have ih0:=L_divisor.mono_l k
  ·intro y0 y1;unfold L_divisor.l0
   repeat' with_reducible first
    |exact ih0 ..
    |exact LeO.refl ..
    |exact LeO.none ..
    |refine LeO.ite ?_ ?_
    |refine LeO.bind ?_ (fun _=>?_)
theorem L_divisor.mono:∀ a0 a1 k,LeO (L_divisor.f k a0 a1) (L_divisor.f (k+1) a0 a1):=by
 intro a0 a1 k;have ih0:=L_divisor.mono_l k;unfold L_divisor.f
 repeat' with_reducible first
  |exact ih0 ..
  |exact LeO.refl ..
  |exact LeO.none ..
  |refine LeO.ite ?_ ?_
  |refine LeO.bind ?_ (fun _=>?_)
theorem L_divisor.calls (k:Nat) (a0:Int) (a1:Int) (r:Int) (w:World) (H:L_divisor.f k a0 a1=some r):
  Calls Tryz.prog 84 #[.int .i64 a0,.int .i64 a1] w fun e w'=>e= .returned (.int .i64 r)∧Below w.heap.size w w':=by
 have HB:=m0 (Below.refl w.heap.size w);unfold L_divisor.f at H;have H':=m0 H;clear H;go_enter Tryz.func84,Tryz.ntmps84
 go_wp2
 repeat(go_quiet (fail);try go_wp2)
 go_loopg [0,1] k (fun kq v0 v1 w'=>∃ (x0_1:Int) (x1_1:Int),v0= .int .i64 x0_1∧v1= .int .i64 x1_1∧Aside0 (L_divisor.l0 kq x0_1 x1_1=some r)∧Aside0 (kq≤k)∧Aside0 (Below w.heap.size w w'))
 case atStart=>exact⟨(a0),(a1),rz,rz,H',⟨Nat.le_refl _⟩,⟨bz⟩⟩
 case round=>
  clear H';obtain⟨x0_1,x1_1,rfl,rfl,HA,HK1,HB⟩:=hrel
  cases gk with
  |zero=>exact absurd HA.out (by simp[L_divisor.l0])
  | succ k1=>
   have H:=HA.out;clear HA;simp only[L_divisor.l0]at H
   by_cases c3:x1_1=0
   ·rw [if_pos c3]at H;have c3b0:=beq_iff_eq.mpr c3;have c3b1:=bne_eq_false_iff_eq.mpr c3;clear c3;obtain⟨ji4,hji4⟩:∃ j_:Int,(mx x0_1 (wrap64 (-x0_1)))=j_:=⟨_,rfl⟩;replace H:(some ji4)=some r:=by first|(rw[hji4]at H;exact H)|(simp only[hji4]at H ⊢;exact H)
    have hji4_:(if x0_1<(wrap64 (-x0_1))then(wrap64 (-x0_1))else x0_1)=ji4:=hji4;obtain rfl:=Option.some.inj H
    go_wp2
    repeat(go_quiet (fail);try go_wp2)
    go_ret
    exact⟨by first|rfl|(simp[errW_none,errW_some]<;>rfl)|(simp only[← hji4];first|rfl|(simp[errW_none,errW_some]<;>rfl))|(simp[*,errW_none,errW_some]<;>rfl),by repeat(first|(with_reducible first|exact HB.out|apply below_alloc|apply pw_below_drewN|apply below_drew1)|exact HB.out)⟩
   ·rw [if_neg c3]at H;have c3b0:=beq_eq_false_iff_ne.mpr c3;have c3b1:=bne_iff_ne.mpr c3;have H':=m0 H;clear H
    go_wp2
    repeat(go_quiet (fail);try go_wp2)
    go_roundg k1
    case measure=>have:=HK1.out;omega
    case rel=>exact⟨(x1_1),(Int.tmod x0_1 x1_1),rz,rz,H',⟨by have:=HK1.out;omega⟩,⟨bz⟩⟩
end
section
def L_fraction.f (k:Nat) (a0:Int) (a1:Int):Option (Int×Int):=(L_divisor.f k a0 a1).bind fun t124=>(if t124=0 then(none)else(some (wrap64 (Int.tdiv a0 t124),wrap64 (Int.tdiv a1 t124))))
theorem L_fraction.mono:∀ a0 a1 k,LeO (L_fraction.f k a0 a1) (L_fraction.f (k+1) a0 a1):=by
 intro a0 a1 k;unfold L_fraction.f
 repeat' with_reducible first
  |exact L_divisor.mono ..
  |exact LeO.refl ..
  |exact LeO.none ..
  |refine LeO.ite ?_ ?_
  |refine LeO.bind ?_ (fun _=>?_)
def L_fraction.T2:Bool×List (List Nat×List Nat):=(true,[([],[]),([],[]),([0,1],[0,1]),([],[]),([],[]),([3,4],[3,4]),([2,5],[2,5]),([6,0,1,2,3,4,5,6],[6])])
def L_fraction.B2:List Nat:=[0,0,3,0,0,24,63,127]
theorem L_fraction.tab2:rtab .any (opsOf Tryz.f85 2)=L_fraction.T2:=by kernel_rfl
theorem L_fraction.bits2:waitsOk L_fraction.T2.2 L_fraction.B2=true:=by kernel_rfl
theorem L_fraction.calls (k:Nat) (a0:Int) (a1:Int) (r1:Int) (r2:Int) (w:World) (H:L_fraction.f k a0 a1=some (r1,r2)):
  Calls Tryz.prog 85 #[.int .i64 a0,.int .i64 a1] w fun e w'=>e= .returned (.agg #[.int .i64 r1,.int .i64 r2])∧Below w.heap.size w w':=by
 have hu24:=Tryz.underlying24;have HB:=m0 (Below.refl w.heap.size w);unfold L_fraction.f at H;replace H:=oa H;obtain⟨t124,A3,H⟩:=H;(try dsimp only at H)
 by_cases c4:t124=0
 ·rw [if_pos c4]at H;exact absurd H (by simp)
 ·rw [if_neg c4]at H;have c4b0:=beq_eq_false_iff_ne.mpr c4;have c4b1:=bne_iff_ne.mpr c4;simp only[Option.some.injEq,Prod.mk.injEq]at H;obtain⟨rfl,rfl⟩:=H;go_enter Tryz.func85,Tryz.ntmps85
  try go_wp2_with (first|((with_reducible refine ga 4 rfl ?_);refine be 4 24 #[.int .i64 0,.int .i64 0] ?_;intro gb123 hg w5 hbox hb;have BK123:=m0 hbox;have GE123:=gw w hg;replace HB:=sb HB hb;clear hb hbox hg)|((with_reducible refine gc 84 rfl ?_);refine gl (some 8) Tryz.func84 #[.int .i64 a0,.int .i64 a1] ?_;(with_reducible refine(L_divisor.calls k a0 a1 t124 _ A3.out).mono ?_);rintro e w6 ⟨rfl,hb⟩;refine⟨_,rfl,?_⟩;replace BK123:=bb BK123 hb;replace HB:=sb HB hb;(try clear hb)))
  replace BK123:=bd BK123;replace HB:=sd HB;refine start_ (n:=8) (S:=fun w'=>True) (ds:=[]) _ (by kernel_rfl) rfl rfl trivial (fun hH=>?_);refine with_tabW L_fraction.tab2 L_fraction.bits2 (fun HT_ HW_=>?_);generalize w6.drew=w7 at BK123 HB hH ⊢;refine pZ 0 (some 9) #[true,false,false,false,false,false,false,false] HT_ ?_;refine pZ 1 (some 10) #[true,true,false,false,false,false,false,false] HT_ ?_;refine pZ 2 (some 11) #[true,true,true,false,false,false,false,false] HT_ ?_;refine pZ 3 (some 12) #[true,true,true,true,false,false,false,false] HT_ ?_;refine pZ 4 (some 13) #[true,true,true,true,true,false,false,false] HT_ ?_;refine pZ 5 (some 14) #[true,true,true,true,true,true,false,false] HT_ ?_;refine pZ 6 (some 15) #[true,true,true,true,true,true,true,false] HT_ ?_;refine oneZ 7 (none) #[true,true,true,true,true,true,true,true] (o1 HT_) fun K hK=>?_;obtain⟨hs8,hfs8⟩:=q0 BK123;obtain⟨hs9,hfs9⟩:=q1 BK123;refine skip_ (w1:=?_) (by rfl) rfl ?_ ?_;rotate_left
  ·go_simp
   rfl
  refine hK.out _ _ trivial (fun hH=>?_);clear hK K;refine done_ (done_of HT_.out (by kernel_rfl)) ?_
  try go_wp2
  refine bodyPost_ret (results_cell_row rfl _ _ gb123 24 #[.int .i64 (wrap64 (Int.tdiv a0 t124)),.int .i64 (wrap64 (Int.tdiv a1 t124))] (0,0) _ rfl (bq BK123.out) Tryz.underlying24 rfl (by kernel_rfl)) rfl ?_;exact ez
end
section
def L_profile_shares.l0:Nat→List (S24)→Int→List Int→Int→Int→Option ((List (S24))×Int)
 |0,_,_,_,_,_=>none
 |k+1,x6,x7,x15,x16,x17=>if x17<x16 then(if 0≤x17 then(if x17<(x15.length:Int)then(if x7=0 then(some (([]:List (S24)),20))else((L_fraction.f k (rd x15 x17) x7).bind fun bt127=>(if x6.length<8796093022208 then(L_profile_shares.l0 k (x6++ [(⟨bt127.1,bt127.2⟩:S24)]) (wrap64 (x7-(rd x15 x17))) x15 x16 (wrap64 (x17+1)))else(none))))else(none))else(none))else(some (x6,0))
def L_profile_shares.f (k:Nat) (l0:List Int) (a1:Int):Option ((List (S24))×Int):=(L_profile_sum.f k l0).bind fun t125=>(if t125>a1 then(some (([]:List (S24)),20))else(L_profile_shares.l0 k ([]:List (S24)) a1 l0 (l0.length:Int) 0))
theorem L_profile_shares.mono_l:∀ k,(∀ y0 y1 y2 y3 y4,LeO (L_profile_shares.l0 k y0 y1 y2 y3 y4) (L_profile_shares.l0 (k+1) y0 y1 y2 y3 y4))
 |0=>fun _ _ _ _ _ r h=>by simp[L_profile_shares.l0]at h
 | k+1=>by
  have ih0:=L_profile_shares.mono_l k
  ·intro y0 y1 y2 y3 y4;unfold L_profile_shares.l0
   repeat' with_reducible first
    |exact ih0 ..
    |exact L_fraction.mono ..
    |exact L_profile_sum.mono ..
    |exact LeO.refl ..
    |exact LeO.none ..
    |refine LeO.ite ?_ ?_
    |refine LeO.bind ?_ (fun _=>?_)
theorem L_profile_shares.mono:∀ a0 a1 k,LeO (L_profile_shares.f k a0 a1) (L_profile_shares.f (k+1) a0 a1):=by
 intro a0 a1 k;have ih0:=L_profile_shares.mono_l k;unfold L_profile_shares.f
 repeat' with_reducible first
  |exact ih0 ..
  |exact L_fraction.mono ..
  |exact L_profile_sum.mono ..
  |exact LeO.refl ..
  |exact LeO.none ..
  |refine LeO.ite ?_ ?_
  |refine LeO.bind ?_ (fun _=>?_)
theorem L_profile_shares.calls (k:Nat) (A0:Option Addr) (c0:Nat) (l0:List Int) (a1:Int) (r1:List (S24)) (r2:Int) (w:World) (hr0:Kd.C (Kd.int .i64) w A0 l0.length l0) (hc0:l0.length≤c0) (H:L_profile_shares.f k l0 a1=some (r1,r2)):
  Calls Tryz.prog 60 #[.slice A0 l0.length c0,.int .i64 a1] w fun e w'=>∃ v0_:Value,e= .returned (.tuple #[v0_,.int .i64 r2])∧Kd.R k24 24 w' w.heap.size (fun _=>True) v0_ r1∧Below w.heap.size w w':=by
 have HR0:=m0 hr0;have HC0:=m0 hc0;clear hr0 hc0;have HB:=m0 (Below.refl w.heap.size w);unfold L_profile_shares.f at H;replace H:=oa H;obtain⟨t125,A3,H⟩:=H;(try dsimp only at H)
 by_cases c4:t125>a1
 ·rw [if_pos c4]at H;have c4b0:=decide_eq_true c4;clear c4;simp only[Option.some.injEq,Prod.mk.injEq]at H;obtain⟨rfl,rfl⟩:=H;go_enter Tryz.func60,Tryz.ntmps60
  go_wp2_with (first|((with_reducible refine gc 57 rfl ?_);refine gl (some 11) Tryz.func57 #[.slice A0 l0.length c0] ?_;(with_reducible refine(L_profile_sum.calls k _ _ l0 t125 _ ?side1 ?side2 A3.out).mono ?_);(case side1=>repeat(first|exact HR0.out|(with_reducible refine Kd.C_alloc ?_ _)|(with_reducible refine Kd.C_drewN ?_ _)|(with_reducible refine Kd.C_drew ?_)));(case side2=>exact HC0.out);rintro e w' ⟨rfl,⟨nd,rfl⟩⟩;refine⟨_,rfl,?_⟩))
  go_ret2
  exact⟨_,by first|rfl|(simp[errW_none,errW_some]<;>rfl)|(simp[*,errW_none,errW_some]<;>rfl),by first|exact Kd.R_nil _ _ _ _ _|exact Kd.N_nil _ _ _ _ _|exact Kd.V_nil _ _ _ _ _|exact Kd.Q_nil _ _ _ _ _|exact Kd.S_nil _ _ _ _ _,by repeat(first|(with_reducible first|exact HB.out|apply below_alloc|apply pw_below_drewN|apply below_drew1)|exact HB.out)⟩
 ·rw [if_neg c4]at H;have c4b0:=decide_eq_false c4;clear c4;have H':=m0 H;clear H;go_enter Tryz.func60,Tryz.ntmps60
  go_wp2_with (first|((with_reducible refine gc 57 rfl ?_);refine gl (some 11) Tryz.func57 #[.slice A0 l0.length c0] ?_;(with_reducible refine(L_profile_sum.calls k _ _ l0 t125 _ ?side1 ?side2 A3.out).mono ?_);(case side1=>repeat(first|exact HR0.out|(with_reducible refine Kd.C_alloc ?_ _)|(with_reducible refine Kd.C_drewN ?_ _)|(with_reducible refine Kd.C_drew ?_)));(case side2=>exact HC0.out);rintro e w' ⟨rfl,⟨nd,rfl⟩⟩;refine⟨_,rfl,?_⟩))
  go_loopg [6,7,17] k (fun kq v6 v7 v17 w'=>∃ (x6_1:List (S24)) (x7_1:Int) (x17_1:Int),v7= .int .i64 x7_1∧v17= .int .i64 x17_1∧Aside0 (L_profile_shares.l0 kq x6_1 x7_1 l0 (l0.length:Int) x17_1=some (r1,r2))∧Aside0 (kq≤k)∧Aside0 (Kd.R k24 24 w' w.heap.size (fun _=>True) v6 x6_1)∧Aside0 (Below w.heap.size w w'))
  case atStart=>exact⟨(([]:List (S24))),(a1),(0),rz,rz,H',⟨Nat.le_refl _⟩,⟨by first|exact Kd.R_nil _ _ _ _ _|exact Kd.N_nil _ _ _ _ _|exact Kd.V_nil _ _ _ _ _|exact Kd.Q_nil _ _ _ _ _|exact Kd.S_nil _ _ _ _ _⟩,⟨bz⟩⟩
  case round=>
   clear H';obtain⟨x6_1,x7_1,x17_1,rfl,rfl,HA,HK1,HO_6,HB⟩:=hrel
   cases gk with
   |zero=>exact absurd HA.out (by simp[L_profile_shares.l0])
   | succ k1=>
    have H:=HA.out;clear HA;simp only[L_profile_shares.l0]at H
    by_cases c5:x17_1<(l0.length:Int)
    ·rw [if_pos c5]at H;have c5b0:=decide_eq_true c5;clear c5
     by_cases c6:0≤x17_1
     ·rw [if_pos c6]at H;have c6b0:=decide_eq_true c6;clear c6
      by_cases c7:x17_1<(l0.length:Int)
      ·rw [if_pos c7]at H;have c7b0:=decide_eq_true c7;clear c7
       by_cases c8:x7_1=0
       ·rw [if_pos c8]at H;have c8b0:=beq_iff_eq.mpr c8;have c8b1:=bne_eq_false_iff_eq.mpr c8;clear c8;simp only[Option.some.injEq,Prod.mk.injEq]at H;obtain⟨rfl,rfl⟩:=H;have p126:0≤(x17_1:Int):=od;have q126:x17_1<(l0.length:Int):=od;obtain⟨ad126,e126,hx126_0⟩:=Kd.at_int HR0.out x17_1 p126 q126
        cases e126
        replace hx126_0:=hc HB hx126_0;replace p126:=eq_true p126;replace q126:=eq_true q126
        go_wp2
        go_ret2
        exact⟨_,by first|rfl|(simp[errW_none,errW_some]<;>rfl)|(simp[*,errW_none,errW_some]<;>rfl),by first|exact Kd.R_nil _ _ _ _ _|exact Kd.N_nil _ _ _ _ _|exact Kd.V_nil _ _ _ _ _|exact Kd.Q_nil _ _ _ _ _|exact Kd.S_nil _ _ _ _ _,by repeat(first|(with_reducible first|exact HB.out|apply below_alloc|apply pw_below_drewN|apply below_drew1)|exact HB.out)⟩
       ·rw [if_neg c8]at H;have c8b0:=beq_eq_false_iff_ne.mpr c8;have c8b1:=bne_iff_ne.mpr c8;replace H:=oa H;obtain⟨⟨t127,t128⟩,A9,H⟩:=H;(try dsimp only at H)
        by_cases c10:x6_1.length<8796093022208
        ·rw [if_pos c10]at H;have LMc10:=m0 c10;clear c10;obtain⟨y129,hy129⟩:∃ y_:List (S24),y_=(x6_1++ [(⟨t127,t128⟩:S24)]):=⟨_,rfl⟩;replace H:(L_profile_shares.l0 k1 y129 (wrap64 (x7_1-(rd l0 x17_1))) l0 (l0.length:Int) (wrap64 (x17_1+1)))=some (r1,r2):=by first|(rw[hy129];with_reducible exact H)|(have H2_:=(Option.bind_some _ _).symm.trans H;rw[hy129];with_reducible exact H2_)|(have H2_:=(Option.bind_some _ _).symm.trans H;with_reducible exact H2_)|with_reducible exact H|(rw[hy129];exact H)|exact H
         have Ny129:=m0 hy129;clear hy129;have H':=m0 H;clear H;have p126:0≤(x17_1:Int):=od;have q126:x17_1<(l0.length:Int):=od;obtain⟨ad126,e126,hx126_0⟩:=Kd.at_int HR0.out x17_1 p126 q126
         cases e126
         replace hx126_0:=hc HB hx126_0;replace p126:=eq_true p126;replace q126:=eq_true q126
         go_wp2_with (first|((with_reducible refine gc 85 rfl ?_);refine gl (some 26) Tryz.func85 #[.int .i64 (rd l0 x17_1),.int .i64 x7_1] ?_;(with_reducible refine(L_fraction.calls k1 (rd l0 x17_1) x7_1 t127 t128 _ A9.out).mono ?_);rintro e w11 ⟨rfl,hb⟩;refine⟨_,rfl,?_⟩;replace HO_6:=rb HO_6 hb;replace HB:=sb HB hb;(try clear hb))|((with_reducible refine gate_builtin (b:= .append) (xs:= #[.tmp 23,.tmp 27]) rfl ?_);at_builtin;refine Kd.R_append k24 (w0:=w) w.heap.size rfl (.tmp 23) (.tmp 27) 57 24 (.agg #[(.int .i64 0),(.int .i64 0)]) 16 rfl Tryz.underlying57 info24 rfl (by decide) (by omega) u6 x6_1 (⟨t127,t128⟩:S24) [.int .i64 t127,.int .i64 t128] (fun _=>True) (fun _=>False) rfl rfl ?aP (fun _ hk=>hk.elim) ?aF ?aO ?aB ?aS ?aL ?_;(case aP=>exact k24_mkM _ _ _ (⟨t127,t128⟩:S24));(case aB=>exact bz);(case aF=>exact(fun _ _=>trivial));(case aO=>exact(br HO_6.out));(case aS=>exact(below_size bz));(case aL=>have:=LMc10.out;omega);intro v130 w12 ho hb hg hat;rw[← Ny129.out]at ho;have n0_:=m0 (hb);have n1_:=m0 (ho);clear HB;clear HO_6;have HB:=n0_;have HO131:=n1_;clear n0_ n1_;clear ho hb hg hat))
         go_roundg k1
         case measure=>have:=HK1.out;omega
         case rel=>exact⟨(y129),(wrap64 (x7_1-(rd l0 x17_1))),(wrap64 (x17_1+1)),rz,rz,H',⟨by have:=HK1.out;omega⟩,⟨br HO131.out⟩,⟨bz⟩⟩
        ·rw [if_neg c10]at H;exact absurd H (by simp)
      ·rw [if_neg c7]at H;exact absurd H (by simp)
     ·rw [if_neg c6]at H;exact absurd H (by simp)
    ·rw [if_neg c5]at H;have c5b0:=decide_eq_false c5;clear c5;simp only[Option.some.injEq,Prod.mk.injEq]at H;obtain⟨rfl,rfl⟩:=H
     go_wp2
     go_ret2
     exact⟨_,by first|rfl|(simp[errW_none,errW_some]<;>rfl)|(simp[*,errW_none,errW_some]<;>rfl),by(with_reducible repeat(first|apply Kd.R_alloc|apply Kd.R_drewN|apply Kd.R_drew));exact HO_6.out,by repeat(first|(with_reducible first|exact HB.out|apply below_alloc|apply pw_below_drewN|apply below_drew1)|exact HB.out)⟩
end
section
def L_Undone.f (k:Nat) (l0:List Int) (a1:Int):Option ((List (S24))×Int):=(L_open.f k l0).bind fun bt132=>((L_constantErr.f a1).bind fun t136=>((L_first.f k (([bt132.2,t136]:List Int))).bind fun t140=>(if t140=0 then((L_profile_shares.f k bt132.1 a1).bind fun bt141=>(some (bt141.1,bt141.2)))else(some (([]:List (S24)),t140)))))
theorem L_Undone.mono:∀ a0 a1 k,LeO (L_Undone.f k a0 a1) (L_Undone.f (k+1) a0 a1):=by
 intro a0 a1 k;unfold L_Undone.f
 repeat' with_reducible first
  |exact L_first.mono ..
  |exact L_open.mono ..
  |exact L_profile_shares.mono ..
  |exact LeO.refl ..
  |exact LeO.none ..
  |refine LeO.ite ?_ ?_
  |refine LeO.bind ?_ (fun _=>?_)
theorem L_Undone.calls (k:Nat) (A0:Option Addr) (c0:Nat) (l0:List Int) (a1:Int) (r1:List (S24)) (r2:Int) (w:World) (hr0:Kd.C (Kd.int .i64) w A0 l0.length l0) (hc0:l0.length≤c0) (H:L_Undone.f k l0 a1=some (r1,r2)):
  Calls Tryz.prog 34 #[.slice A0 l0.length c0,.int .i64 a1] w fun e w'=>∃ v0_:Value,e= .returned (.tuple #[v0_,.int .i64 r2])∧Kd.R k24 24 w' w.heap.size (fun _=>True) v0_ r1∧Below w.heap.size w w':=by
 have HR0:=m0 hr0;have HC0:=m0 hc0;clear hr0 hc0;have HB:=m0 (Below.refl w.heap.size w);unfold L_Undone.f at H;replace H:=oa H;obtain⟨⟨t132,t135⟩,A3,H⟩:=H;(try dsimp only at H);replace H:=oa H;obtain⟨t136,A4,H⟩:=H;(try dsimp only at H);obtain⟨y137,hy137⟩:∃ y_:List Int,y_=(([t135,t136]:List Int)):=⟨_,rfl⟩;replace H:((L_first.f k y137).bind fun t140=>(if t140=0 then((L_profile_shares.f k t132 a1).bind fun bt141=>(some (bt141.1,bt141.2)))else(some (([]:List (S24)),t140))))=some (r1,r2):=by first|(rw[hy137];with_reducible exact H)|(have H2_:=(Option.bind_some _ _).symm.trans H;rw[hy137];with_reducible exact H2_)|(have H2_:=(Option.bind_some _ _).symm.trans H;with_reducible exact H2_)|with_reducible exact H|(rw[hy137];exact H)|exact H
 have Ny137:=m0 hy137;clear hy137;replace H:=oa H;obtain⟨t140,A5,H⟩:=H;(try dsimp only at H)
 by_cases c6:t140=0
 ·rw [if_pos c6]at H;have c6b0:=beq_iff_eq.mpr c6;have c6b1:=bne_eq_false_iff_eq.mpr c6;clear c6;replace H:=oa H;obtain⟨⟨t141,t142⟩,A7,H⟩:=H;(try dsimp only at H);simp only[Option.some.injEq,Prod.mk.injEq]at H;obtain⟨rfl,rfl⟩:=H;go_enter Tryz.func34,Tryz.ntmps34
  go_wp2_with (first|((with_reducible refine gc 45 rfl ?_);refine gl (some 10) Tryz.func45 #[.slice A0 l0.length c0] ?_;(with_reducible refine(L_open.calls k (fun k_=>k_<w.heap.size) _ _ l0 t132 t135 _ ?side1 A3.out).mono ?_);(case side1=>exact Kd.V_mk HC0.out (Kd.F_below (Kd.C_F (Kd.heap_int .i64) HR0.out) bz));rintro e w8 ⟨v133,rfl,ho0,hb⟩;refine⟨_,rfl,?_⟩;have HO134:=hv w (fun k_=>True) ho0 (fun k_ hk_=>trivial);replace HB:=sb HB hb;(try clear hb);(try clear ho0))|((with_reducible refine gc 55 rfl ?_);refine gl (some 15) Tryz.func55 #[.int .i64 a1] ?_;(with_reducible refine(L_constantErr.calls a1 t136 _ A4.out).mono ?_);rintro e w' ⟨rfl,⟨nd,rfl⟩⟩;refine⟨_,rfl,?_⟩)|((with_reducible refine ga 16 rfl ?_);refine Kd.R_lit (Kd.int .i64) _ 35 ?hg (N:=16) ?hd (xs:=([t135,t136]:List Int)) (inner:=[.int .i64 t135,.int .i64 t136]) (ok:=fun _=>True) (okp:=fun _=>True) ?hr ?hp (fun _ hk=>hk) trivial (Below.refl _ _) (Nat.le_refl _) (by simp) ?_;(case hd=>rfl);(case hg=>rfl);(case hr=>first|(go_simp;done)|(go_simp;rfl));(case hp=>exact(Reps.one (ki t135) (Reps.one (ki t136) (Reps.none _ _))));intro v138 w9 ho10 hb hg_ hnew_;clear hg_ hnew_;(first|rw[← Ny137.out]at ho10|(simp only[Int.reduceToNat]at ho10;rw[← Ny137.out]at ho10));replace HO134:=m0 (Kd.V_elder' (by(with_reducible repeat(first|apply Kd.V_alloc|apply Kd.V_drewN|apply Kd.V_drew));exact HO134.out) (Kd.R_base ho10) hb);have HO139:=m0 (Kd.R_lower ho10 (below_size bz));replace HB:=sb HB hb;clear hb ho10;obtain⟨Ao11,co11,eo11⟩:=Kd.R_slice HO139.out;subst eo11)|((with_reducible refine gc 48 rfl ?_);refine gl (some 17) Tryz.func48 #[.slice Ao11 y137.length co11] ?_;(with_reducible refine(L_first.calls k _ _ y137 t140 _ ?side1 ?side2 A5.out).mono ?_);(case side1=>exact bc (Kd.R_reads' HO139.out).2.2);(case side2=>exact(Kd.R_reads' HO139.out).2.1);rintro e w' ⟨rfl,⟨nd,rfl⟩⟩;refine⟨_,rfl,?_⟩;obtain⟨Ao12,co12,eo12⟩:=Kd.V_slice HO134.out;subst eo12)|((with_reducible refine gc 60 rfl ?_);refine gl (some 23) Tryz.func60 #[.slice Ao12 t132.length co12,.int .i64 a1] ?_;(with_reducible refine(L_profile_shares.calls k _ _ t132 a1 t141 t142 _ ?side1 ?side2 A7.out).mono ?_);(case side1=>exact bc (Kd.V_reads' HO134.out).2.2);(case side2=>exact(Kd.V_reads' HO134.out).2.1);rintro e w13 ⟨v143,rfl,ho0,hb⟩;refine⟨_,rfl,?_⟩;replace HO134:=m0 (Kd.V_elder' (by(with_reducible repeat(first|apply Kd.V_alloc|apply Kd.V_drewN|apply Kd.V_drew));exact HO134.out) (Kd.R_base ho0) hb);replace HO139:=rb HO139 hb;have HO144:=m0 (Kd.R_lower ho0 (below_size bz));replace HB:=sb HB hb;(try clear hb);(try clear ho0)))
  go_ret2
  exact⟨_,by first|rfl|(simp[errW_none,errW_some]<;>rfl)|(simp[*,errW_none,errW_some]<;>rfl),by(with_reducible repeat(first|apply Kd.R_alloc|apply Kd.R_drewN|apply Kd.R_drew));exact HO144.out,by repeat(first|(with_reducible first|exact HB.out|apply below_alloc|apply pw_below_drewN|apply below_drew1)|exact HB.out)⟩
 ·rw [if_neg c6]at H;have c6b0:=beq_eq_false_iff_ne.mpr c6;have c6b1:=bne_iff_ne.mpr c6;simp only[Option.some.injEq,Prod.mk.injEq]at H;obtain⟨rfl,rfl⟩:=H;go_enter Tryz.func34,Tryz.ntmps34
  go_wp2_with (first|((with_reducible refine gc 45 rfl ?_);refine gl (some 10) Tryz.func45 #[.slice A0 l0.length c0] ?_;(with_reducible refine(L_open.calls k (fun k_=>k_<w.heap.size) _ _ l0 t132 t135 _ ?side1 A3.out).mono ?_);(case side1=>exact Kd.V_mk HC0.out (Kd.F_below (Kd.C_F (Kd.heap_int .i64) HR0.out) bz));rintro e w14 ⟨v133,rfl,ho0,hb⟩;refine⟨_,rfl,?_⟩;have HO134:=hv w (fun k_=>True) ho0 (fun k_ hk_=>trivial);replace HB:=sb HB hb;(try clear hb);(try clear ho0))|((with_reducible refine gc 55 rfl ?_);refine gl (some 15) Tryz.func55 #[.int .i64 a1] ?_;(with_reducible refine(L_constantErr.calls a1 t136 _ A4.out).mono ?_);rintro e w' ⟨rfl,⟨nd,rfl⟩⟩;refine⟨_,rfl,?_⟩)|((with_reducible refine ga 16 rfl ?_);refine Kd.R_lit (Kd.int .i64) _ 35 ?hg (N:=16) ?hd (xs:=([t135,t136]:List Int)) (inner:=[.int .i64 t135,.int .i64 t136]) (ok:=fun _=>True) (okp:=fun _=>True) ?hr ?hp (fun _ hk=>hk) trivial (Below.refl _ _) (Nat.le_refl _) (by simp) ?_;(case hd=>rfl);(case hg=>rfl);(case hr=>first|(go_simp;done)|(go_simp;rfl));(case hp=>exact(Reps.one (ki t135) (Reps.one (ki t136) (Reps.none _ _))));intro v138 w15 ho16 hb hg_ hnew_;clear hg_ hnew_;(first|rw[← Ny137.out]at ho16|(simp only[Int.reduceToNat]at ho16;rw[← Ny137.out]at ho16));replace HO134:=m0 (Kd.V_elder' (by(with_reducible repeat(first|apply Kd.V_alloc|apply Kd.V_drewN|apply Kd.V_drew));exact HO134.out) (Kd.R_base ho16) hb);have HO139:=m0 (Kd.R_lower ho16 (below_size bz));replace HB:=sb HB hb;clear hb ho16;obtain⟨Ao17,co17,eo17⟩:=Kd.R_slice HO139.out;subst eo17)|((with_reducible refine gc 48 rfl ?_);refine gl (some 17) Tryz.func48 #[.slice Ao17 y137.length co17] ?_;(with_reducible refine(L_first.calls k _ _ y137 t140 _ ?side1 ?side2 A5.out).mono ?_);(case side1=>exact bc (Kd.R_reads' HO139.out).2.2);(case side2=>exact(Kd.R_reads' HO139.out).2.1);rintro e w' ⟨rfl,⟨nd,rfl⟩⟩;refine⟨_,rfl,?_⟩))
  go_ret2
  exact⟨_,by first|rfl|(simp[errW_none,errW_some]<;>rfl)|(simp[*,errW_none,errW_some]<;>rfl),by first|exact Kd.R_nil _ _ _ _ _|exact Kd.N_nil _ _ _ _ _|exact Kd.V_nil _ _ _ _ _|exact Kd.Q_nil _ _ _ _ _|exact Kd.S_nil _ _ _ _ _,by repeat(first|(with_reducible first|exact HB.out|apply below_alloc|apply pw_below_drewN|apply below_drew1)|exact HB.out)⟩
end
section
def L_openDivision.f (k:Nat) (l0:List Int) (a1:Int):Option (List Int×Int):=(L_open.f k l0).bind fun bt145=>((L_within.f a1 0 1000000).bind fun t149=>((L_unless.f t149 2).bind fun t150=>((L_first.f k (([bt145.2,t150]:List Int))).bind fun t154=>(some (bt145.1,t154)))))
theorem L_openDivision.mono:∀ a0 a1 k,LeO (L_openDivision.f k a0 a1) (L_openDivision.f (k+1) a0 a1):=by
 intro a0 a1 k;unfold L_openDivision.f
 repeat' with_reducible first
  |exact L_first.mono ..
  |exact L_open.mono ..
  |exact LeO.refl ..
  |exact LeO.none ..
  |refine LeO.ite ?_ ?_
  |refine LeO.bind ?_ (fun _=>?_)
theorem L_openDivision.calls (k:Nat) (P0_:Nat→Prop) (A0:Option Addr) (c0:Nat) (l0:List Int) (a1:Int) (r1:List Int) (r2:Int) (w:World) (hs0:Kd.V (Kd.int .i64) 3 w w.heap.size (fun k_=>P0_ k_) (.slice A0 l0.length c0) l0) (H:L_openDivision.f k l0 a1=some (r1,r2)):
  Calls Tryz.prog 70 #[.slice A0 l0.length c0,.int .i64 a1] w fun e w'=>∃ v0_:Value,e= .returned (.tuple #[v0_,.int .i64 r2])∧Kd.V (Kd.int .i64) 3 w' w.heap.size (fun k_=>(P0_ k_∨w.heap.size≤k_)) v0_ r1∧Below w.heap.size w w':=by
 have HO0:=m0 (show Kd.V (Kd.int .i64) 3 w w.heap.size (fun k_=>(P0_ k_∨w.heap.size≤k_)) (.slice A0 l0.length c0) l0 from Kd.V_mono hs0 (fun k_ hk=> .inl hk));have HB:=m0 (Below.refl w.heap.size w);unfold L_openDivision.f at H;replace H:=oa H;obtain⟨⟨t145,t148⟩,A3,H⟩:=H;(try dsimp only at H);replace H:=oa H;obtain⟨t149,A4,H⟩:=H;(try dsimp only at H);replace H:=oa H;obtain⟨t150,A5,H⟩:=H;(try dsimp only at H);obtain⟨y151,hy151⟩:∃ y_:List Int,y_=(([t148,t150]:List Int)):=⟨_,rfl⟩;replace H:((L_first.f k y151).bind fun t154=>(some (t145,t154)))=some (r1,r2):=by first|(rw[hy151];with_reducible exact H)|(have H2_:=(Option.bind_some _ _).symm.trans H;rw[hy151];with_reducible exact H2_)|(have H2_:=(Option.bind_some _ _).symm.trans H;with_reducible exact H2_)|with_reducible exact H|(rw[hy151];exact H)|exact H
 have Ny151:=m0 hy151;clear hy151;replace H:=oa H;obtain⟨t154,A6,H⟩:=H;(try dsimp only at H);simp only[Option.some.injEq,Prod.mk.injEq]at H;obtain⟨rfl,rfl⟩:=H;go_enter Tryz.func70,Tryz.ntmps70
 go_wp2_with (first|((with_reducible refine gc 45 rfl ?_);refine gl (some 10) Tryz.func45 #[.slice A0 l0.length c0] ?_;(with_reducible refine(L_open.calls k (fun k_=>(P0_ k_∨w.heap.size≤k_)) _ _ l0 t145 t148 _ ?side1 A3.out).mono ?_);(case side1=>exact HO0.out);rintro e w7 ⟨v146,rfl,ho0,hb⟩;refine⟨_,rfl,?_⟩;replace HO0:=vb HO0 hb;have HO147:=hv w (fun k_=>(P0_ k_∨w.heap.size≤k_)) ho0 (fun k_ hk_=>Or.elim hk_ (fun hs_=>hs_) (fs ·));replace HB:=sb HB hb;(try clear hb);(try clear ho0))|((with_reducible refine gc 46 rfl ?_);refine gl (some 16) Tryz.func46 #[.int .i64 a1,.int .i64 0,.int .i64 1000000] ?_;(with_reducible refine(L_within.calls a1 0 1000000 t149 _ A4.out).mono ?_);rintro e w' ⟨rfl,⟨nd,rfl⟩⟩;refine⟨_,rfl,?_⟩)|((with_reducible refine gc 49 rfl ?_);refine gl (some 17) Tryz.func49 #[.bool t149,.int .i64 2] ?_;(with_reducible refine(L_unless.calls t149 2 t150 _ A5.out).mono ?_);rintro e w' ⟨rfl,⟨nd,rfl⟩⟩;refine⟨_,rfl,?_⟩)|((with_reducible refine ga 18 rfl ?_);refine Kd.R_lit (Kd.int .i64) _ 35 ?hg (N:=18) ?hd (xs:=([t148,t150]:List Int)) (inner:=[.int .i64 t148,.int .i64 t150]) (ok:=fun _=>True) (okp:=fun _=>True) ?hr ?hp (fun _ hk=>hk) trivial (Below.refl _ _) (Nat.le_refl _) (by simp) ?_;(case hd=>rfl);(case hg=>rfl);(case hr=>first|(go_simp;done)|(go_simp;rfl));(case hp=>exact(Reps.one (ki t148) (Reps.one (ki t150) (Reps.none _ _))));intro v152 w8 ho9 hb hg_ hnew_;clear hg_ hnew_;(first|rw[← Ny151.out]at ho9|(simp only[Int.reduceToNat]at ho9;rw[← Ny151.out]at ho9));replace HO0:=m0 (Kd.V_elder' (by(with_reducible repeat(first|apply Kd.V_alloc|apply Kd.V_drewN|apply Kd.V_drew));exact HO0.out) (Kd.R_base ho9) hb);replace HO147:=m0 (Kd.V_elder' (by(with_reducible repeat(first|apply Kd.V_alloc|apply Kd.V_drewN|apply Kd.V_drew));exact HO147.out) (Kd.R_base ho9) hb);have HO153:=m0 (Kd.R_lower (Kd.R_newM (M:=fun k_=>(w.heap.size≤k_)) ho9 (below_size bz) (fun k_ h_=>h_)) (below_size bz));replace HB:=sb HB hb;clear hb ho9;obtain⟨Ao10,co10,eo10⟩:=Kd.R_slice HO153.out;subst eo10)|((with_reducible refine gc 48 rfl ?_);refine gl (some 19) Tryz.func48 #[.slice Ao10 y151.length co10] ?_;(with_reducible refine(L_first.calls k _ _ y151 t154 _ ?side1 ?side2 A6.out).mono ?_);(case side1=>exact bc (Kd.R_reads' HO153.out).2.2);(case side2=>exact(Kd.R_reads' HO153.out).2.1);rintro e w' ⟨rfl,⟨nd,rfl⟩⟩;refine⟨_,rfl,?_⟩))
 go_ret2
 exact⟨_,by first|rfl|(simp[errW_none,errW_some]<;>rfl)|(simp[*,errW_none,errW_some]<;>rfl),by(with_reducible repeat(first|apply Kd.V_alloc|apply Kd.V_drewN|apply Kd.V_drew));exact Kd.V_mono HO147.out (fun _ hk=>hk.1),by repeat(first|(with_reducible first|exact HB.out|apply below_alloc|apply pw_below_drewN|apply below_drew1)|exact HB.out)⟩
end
section
theorem itb_ {A W wr:World} {p:Addr} {v:Value} (hW:Below A.heap.size A W) (hB:Below A.heap.size W wr) (h:A.cell? p=some v):wr.cell? p=some v:=
 (hB.cell (World.block_lt_of_cell? A _ h)).trans ((hW.cell (World.block_lt_of_cell? A _ h)).trans h)
theorem abides_new_ {β:Type} {J:β→World→Prop} {n:Nat} {s:β} {W:World} {o:Obj} (hA:AbidesFrom n J) (h:J s W):J s (W.alloc o):=hA s W _ none h (World.grownBy_alloc W o none) (fun r e=>by cases e)
theorem itn_ {n:Nat} {W0 W:World} {o:Obj} (h:Below n W0 W) (hn:n≤W.heap.size):Below n W0 (W.alloc o):=h.alloc hn o
theorem L_profile_int.calls_own (A:Option Addr) (n c:Nat) (w:World):
  Calls Tryz.prog 127 #[.slice A n c] w fun e w'=>∃ gb,gb=w.heap.size∧e= .returned (.func (.func 141) #[] #[.pointer (some ⟨gb,0,none⟩)])∧w'.heap[gb]?=some (.cells #[.slice A n c] 93 (0,0))∧Below w.heap.size w w':=by
 go_enter Tryz.func127,Tryz.ntmps127
 go_wp2
 go_ret
 exact⟨_,rfl,rfl,blk_new _ _,below_alloc (Below.refl _ _) _⟩
attribute [local go_sem] Oper.semAt_some
theorem L_profile_int.take_snoc (l:List Int) (x:Int) (h0:0≤x) (h1:x<(l.length:Int)):l.take (x+1).toNat=l.take x.toNat++ [rd l x]:=by
 have e:(x+1).toNat=x.toNat+1:=by omega
 have h:x.toNat<l.length:=by omega
 rw[e,List.take_succ_eq_append_getElem h]
 congr 1
 simp[rd,List.getD_eq_getElem?_getD,List.getElem?_eq_getElem h]
theorem L_profile_int.stops (n:Nat) (hn:1≤n) (A:Option Addr) (c:Nat) (l:List Int) (B:Nat) (w:World) (hbx:w.heap[B]?=some (.cells #[.slice A l.length c] 93 (0,0))) (hr:Kd.C (Kd.int .i64) w A l.length l):
  SeqStopsK Fence.wide n Tryz.prog 141 #[.pointer (some ⟨B,0,none⟩)] (fun x_:Int=>(#[(.int .i64 (x_))]:Array Value)) (Below w.heap.size) (fun ys=>ys=l) (fun _=>True) l.length w:=by
 intro l_ J Jx W hW hJ hJx hY h0;have hcx:W.cell? ⟨B,0,none⟩=some (.slice A l.length c):=(blk_cell (blk_below hbx hW) 0).trans rfl;have HL:=m0 (show(l.length:Int)≤9223372036854775807 by have:=hr.2.1;omega);have HY:=m0 hY;have HR:=m0 hr;have H0:=m0 h0;have HW:=m0 hW;have HJA:=m0 hJ;clear hr hbx hY h0 hJ hJx hW;refine callsIn_of_wp Tryz.func141 rfl trivial ?_ rfl;simp only[Tryz.ntmps141,List.size_toArray,List.length_cons,List.length_nil,Nat.reduceAdd,Nat.reduceSub,Array.replicate_succ,Array.replicate_zero,List.push_toArray,List.append_toArray,List.nil_append,List.cons_append]
 gi_wp2
 gi_loopw [7] (fun i wr=>∃ x:Int,i= .int .i64 x∧Aside0 (0≤x∧x≤l.length)∧Aside0 (J (l.take x.toNat) wr)∧Aside0 (Below w.heap.size W wr)) (fun i _=>l.length-(intOf i).toNat)
 case atStart=>exact⟨0,rfl,⟨by omega,by omega⟩,⟨H0.out⟩,⟨Below.refl _ _⟩⟩
 case round=>
  obtain⟨x,rfl,HX,HJ,HB⟩:=hrel;clear hcx
  by_cases hlt:x<(l.length:Int)
  ·obtain ⟨ad,e,hx0⟩:=Kd.at_int HR.out x HX.out.1 hlt
   cases e
   replace hx0:=itb_ HW.out HB.out hx0;have HLT:=m0 hlt;have c1:decide (x<(l.length:Int))=true:=decide_eq_true hlt;have p1:=eq_true HX.out.1;have q1:=eq_true hlt;clear hlt;obtain⟨fn,tmps,assign,body,hy,hR⟩:=HY.out (l.take x.toNat) (rd l x) wr HJ.out (by rw[List.length_take];have:=HLT.out;have:=HX.out;omega);have HRR:=m0 hR;clear hR
   gi_wp2
   refine HRR.out.mono ?_;rintro e W3 (⟨rfl,hJ3,hk3⟩|⟨rfl,hJx3⟩)
   ·have HJ3:=m0 hJ3;have HK3:=m0 (show Below w.heap.size W W3 from HB.out.trans hk3);clear hJ3 hk3 hy
    gi_wp2
    go_roundw
    case rel=>
     have h0:=HX.out.1;have h1:=HLT.out;have hL:=HL.out;have e1:wrap64 (x+1)=x+1:=by unfold wrap64;omega
     refine⟨wrap64 (x+1),rfl,?_,?_,HK3⟩
     ·rw [e1];exact⟨⟨by omega,by omega⟩⟩
     ·rw [e1,L_profile_int.take_snoc l x h0 h1];exact HJ3
    case measure=>
     have h0:=HX.out.1;have h1:=HLT.out;have hL:=HL.out;have e1:wrap64 (x+1)=x+1:=by unfold wrap64;omega
     simp only[intOf];rw[e1];omega
   ·have HJX:=m0 hJx3;clear hJx3 hy
    gi_wp2
    refine bodyPost_ret (results_none rfl _ _ _) rfl ?_;exact⟨⟨_,rfl⟩,.inr ⟨_,trivial,HJX.out⟩⟩
  ·have HN:=m0 hlt;have c1:decide (x<(l.length:Int))=false:=decide_eq_false hlt;clear hlt
   gi_wp2
   go_end0
   have hj:=HJ.out;rw[List.take_of_length_le (by have:=HN.out;omega)]at hj
   first
    |exact⟨⟨_,rfl⟩,.inl ⟨_,rfl,hj⟩⟩
    |exact⟨⟨_,rfl⟩,.inl hj⟩
end
end Go.Proofs.YteiafijbgjgiaaaGreat.A
