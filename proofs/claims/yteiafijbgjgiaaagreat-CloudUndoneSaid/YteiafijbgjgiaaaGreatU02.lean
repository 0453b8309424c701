/- Walks of the program's functions (printed, made shorter), each with what it computes. -/
import Derived.Lib.SliceRun
import Derived.Test.YteiafijbgjgiaaaGreatB06
import Derived.Test.YteiafijbgjgiaaaGreatB05
import Derived.Test.YteiafijbgjgiaaaGreatB07
namespace Go.Proofs.YteiafijbgjgiaaaGreat.A
set_option maxHeartbeats 8000000
set_option maxRecDepth 100000
open Go.RowKit Go.Proofs.YteiafijbgjgiaaaGreatW.PrintWords Go.Proofs.YteiafijbgjgiaaaGreatW.PrintLast Go.Proofs.YteiafijbgjgiaaaGreatW.PrintMore
attribute [local go_sem] max2_int min2_int max_two min_two max_three min_three max_four min_four
set_option linter.unusedVariables false
set_option linter.unusedSimpArgs false
section
def slices_Clone_int_int.f (l0:List Int):Option (List Int):=(some (([]:List Int):List Int)).bind fun y604=>(if y604.length+l0.length<17592186044416 then(some (y604++l0))else(none))
theorem slices_Clone_int_int.calls (A0:Option Addr) (c0:Nat) (l0:List Int) (r:List Int) (w:World) (hr0:Kd.C (Kd.int .i64) w A0 l0.length l0) (hc0:l0.length≤c0) (H:slices_Clone_int_int.f l0=some r):
  Calls Tryz.prog 87 #[.slice A0 l0.length c0] w fun e w'=>∃ v0_:Value,e= .returned (v0_)∧Kd.R (Kd.int .i64) 3 w' w.heap.size (fun _=>True) v0_ r∧Below w.heap.size w w':=by
 have HR0:=m0 hr0;have HC0:=m0 hc0;clear hr0 hc0;have HB:=m0 (Below.refl w.heap.size w);unfold slices_Clone_int_int.f at H;obtain⟨y604,hy604⟩:∃ y_:List Int,y_=(([]:List Int)):=⟨_,rfl⟩;replace H:(if y604.length+l0.length<17592186044416 then(some (y604++l0))else(none))=some r:=by first|(rw[hy604];with_reducible exact H)|(have H2_:=(Option.bind_some _ _).symm.trans H;rw[hy604];with_reducible exact H2_)|(have H2_:=(Option.bind_some _ _).symm.trans H;with_reducible exact H2_)|with_reducible exact H|(rw[hy604];exact H)|exact H
 have Ny604:=m0 hy604;clear hy604
 by_cases c2:y604.length+l0.length<17592186044416
 ·rw [if_pos c2]at H;have LMc2:=m0 c2;clear c2;obtain⟨y607,hy607⟩:∃ y_:List Int,y_=(y604++l0):=⟨_,rfl⟩;replace H:(some y607)=some r:=by first|(rw[hy607];with_reducible exact H)|(have H2_:=(Option.bind_some _ _).symm.trans H;rw[hy607];with_reducible exact H2_)|(have H2_:=(Option.bind_some _ _).symm.trans H;with_reducible exact H2_)|with_reducible exact H|(rw[hy607];exact H)|exact H
  have Ny607:=m0 hy607;clear hy607;obtain rfl:=Option.some.inj H;have q22:∀ (w:World) (a:Option Addr) (n c n' c':Nat),(binOp .eql 22 (.slice a n c) (.slice none n' c')).run Tryz.prog w= .ok (.bool a.isNone) w:=fun w a n c n' c'=>Lib.run_eql_slice_nil w _ _ a n c n' c' Tryz.underlying22
  cases A0 with
  | none=>
   have hl:l0=[]:=by
    have h3:=HR0.out.2.2
    cases l0 with
    |nil=>rfl
    |cons x l=>obtain⟨ad,e,_⟩:=h3 (Nat.succ_pos _);cases e
   have hy:y607=[]:=by rw[Ny607.out,Ny604.out,hl];rfl
   subst hy;go_enter Tryz.func87,Tryz.ntmps87
   go_wp2
   go_ret
   exact⟨_,rfl,Kd.R_nil _ _ _ _ _,by repeat(first|(with_reducible first|exact HB.out|apply below_alloc|apply pw_below_drewN|apply below_drew1)|exact HB.out)⟩
  |some ad=>
   go_enter Tryz.func87,Tryz.ntmps87
   go_wp2_with (first|((with_reducible refine ga 5 rfl ?_);refine Kd.R_lit (Kd.int .i64) _ 3 ?hg (N:=5) ?hd (xs:=([]:List Int)) (inner:=[]) (ok:=fun _=>True) (okp:=fun _=>True) ?hr ?hp (fun _ hk=>hk) trivial (Below.refl _ _) (Nat.le_refl _) (by simp) ?_;(case hd=>rfl);(case hg=>rfl);(case hr=>first|(go_simp;done)|(go_simp;rfl));(case hp=>exact(Reps.none _ _));intro v605 w3 ho4 hb hg_ hnew_;clear hg_ hnew_;(first|rw[← Ny604.out]at ho4|(simp only[Int.reduceToNat]at ho4;rw[← Ny604.out]at ho4));have HO606:=m0 (Kd.R_lower ho4 (below_size bz));replace HB:=sb HB hb;clear hb ho4)|((with_reducible refine gate_builtin (b:= .append) (xs:= #[.tmp 5,.tmp 6]) rfl ?_);at_builtin;refine Kd.R_append_rows (Kd.int .i64) (w0:=w) w.heap.size rfl (.tmp 5) (.tmp 6) 22 3 (.int .i64 0) 8 rfl Tryz.underlying22 info3 rfl (by decide) (by omega) v605 y604 l0 _ _ _ (fun _=>True) (fun _=>False) rfl rfl ?aO ?aR (fun _ _ h=>h) (fun _ h=>h.elim) ?aF ?aB ?aS ?aL ?_;(case aR=>exact cb HR0 HB);(case aB=>exact bz);(case aF=>exact(fun _ _=>trivial));(case aO=>exact(br HO606.out));(case aS=>exact(below_size bz));(case aL=>have:=LMc2.out;omega);intro v608 w5 ho hb hg hat;rw[← Ny607.out]at ho;have n0_:=m0 (hb);have n1_:=m0 (ho);clear HB;clear HO606;have HB:=n0_;have HO609:=n1_;clear n0_ n1_;clear ho hb hg hat))
   go_ret
   exact⟨_,by first|rfl|(simp[errW_none,errW_some]<;>rfl)|(simp[*,errW_none,errW_some]<;>rfl),by(with_reducible repeat(first|apply Kd.R_alloc|apply Kd.R_drewN|apply Kd.R_drew));exact HO609.out,by repeat(first|(with_reducible first|exact HB.out|apply below_alloc|apply pw_below_drewN|apply below_drew1)|exact HB.out)⟩
 ·rw [if_neg c2]at H;exact absurd H (by simp)
end
section
def slices_Index_int_int.l0:Nat→List Int→Int→Int→Int→Option (Int)
 |0,_,_,_,_=>none
 |k+1,x0,x1,x7,x8=>if x8<x7 then(if 0≤x8 then(if x8<(x0.length:Int)then(if x1=(rd x0 x8)then(some x8)else(slices_Index_int_int.l0 k x0 x1 x7 (wrap64 (x8+1))))else(none))else(none))else(some (-1))
def slices_Index_int_int.f (k:Nat) (l0:List Int) (a1:Int):Option (Int):=slices_Index_int_int.l0 k l0 a1 (l0.length:Int) 0
theorem slices_Index_int_int.mono_l:∀ k,(∀ y0 y1 y2 y3,LeO (slices_Index_int_int.l0 k y0 y1 y2 y3) (slices_Index_int_int.l0 (k+1) y0 y1 y2 y3))
 |0=>fun _ _ _ _ r h=>by simp[slices_Index_int_int.l0]at h
 | k+1=>by
  have ih0:=slices_Index_int_int.mono_l k
  ·intro y0 y1 y2 y3;unfold slices_Index_int_int.l0
   repeat' with_reducible first
    |exact ih0 ..
    |exact LeO.refl ..
    |exact LeO.none ..
    |refine LeO.ite ?_ ?_
    |refine LeO.bind ?_ (fun _=>?_)
theorem slices_Index_int_int.mono:∀ a0 a1 k,LeO (slices_Index_int_int.f k a0 a1) (slices_Index_int_int.f (k+1) a0 a1):=by
 intro a0 a1 k;have ih0:=slices_Index_int_int.mono_l k;unfold slices_Index_int_int.f
 repeat' with_reducible first
  |exact ih0 ..
  |exact LeO.refl ..
  |exact LeO.none ..
  |refine LeO.ite ?_ ?_
  |refine LeO.bind ?_ (fun _=>?_)
theorem slices_Index_int_int.calls (k:Nat) (A0:Option Addr) (c0:Nat) (l0:List Int) (a1:Int) (r:Int) (w:World) (hr0:Kd.C (Kd.int .i64) w A0 l0.length l0) (hc0:l0.length≤c0) (H:slices_Index_int_int.f k l0 a1=some r):
  Calls Tryz.prog 118 #[.slice A0 l0.length c0,.int .i64 a1] w fun e w'=>e= .returned (.int .i64 r)∧Drawn0 w w':=by
 have HR0:=m0 hr0;have HC0:=m0 hc0;clear hr0 hc0;unfold slices_Index_int_int.f at H;have H':=m0 H;clear H;go_enter Tryz.func118,Tryz.ntmps118
 go_wp2
 go_loopg [8] k (fun kq v8 w'=>∃ (x8_1:Int),v8= .int .i64 x8_1∧Aside0 (slices_Index_int_int.l0 kq l0 a1 (l0.length:Int) x8_1=some r)∧Aside0 (kq≤k)∧Drawn0 w w')
 case atStart=>exact⟨(0),rz,H',⟨Nat.le_refl _⟩,by repeat(first|exact Drawn0.refl _|apply Drawn0.step)⟩
 case round=>
  clear H';obtain⟨x8_1,rfl,HA,HK1,⟨m1,rfl⟩⟩:=hrel
  cases gk with
  |zero=>exact absurd HA.out (by simp[slices_Index_int_int.l0])
  | succ k1=>
   have H:=HA.out;clear HA;simp only[slices_Index_int_int.l0]at H
   by_cases c3:x8_1<(l0.length:Int)
   ·rw [if_pos c3]at H;have c3b0:=decide_eq_true c3;clear c3
    by_cases c4:0≤x8_1
    ·rw [if_pos c4]at H;have c4b0:=decide_eq_true c4;clear c4
     by_cases c5:x8_1<(l0.length:Int)
     ·rw [if_pos c5]at H;have c5b0:=decide_eq_true c5;clear c5
      by_cases c6:a1=(rd l0 x8_1)
      ·rw [if_pos c6]at H;have c6b0:=beq_iff_eq.mpr c6;have c6b1:=bne_eq_false_iff_eq.mpr c6;clear c6;obtain rfl:=Option.some.inj H;have p664:0≤(x8_1:Int):=od;have q664:x8_1<(l0.length:Int):=od;obtain⟨ad664,e664,hx664_0⟩:=Kd.at_int HR0.out x8_1 p664 q664
       cases e664
       replace p664:=eq_true p664;replace q664:=eq_true q664
       go_wp2
       go_ret
       exact⟨rz,by repeat(first|exact Drawn0.refl _|apply Drawn0.step)⟩
      ·rw [if_neg c6]at H;have c6b0:=beq_eq_false_iff_ne.mpr c6;have c6b1:=bne_iff_ne.mpr c6;have H':=m0 H;clear H;have p664:0≤(x8_1:Int):=od;have q664:x8_1<(l0.length:Int):=od;obtain⟨ad664,e664,hx664_0⟩:=Kd.at_int HR0.out x8_1 p664 q664
       cases e664
       replace p664:=eq_true p664;replace q664:=eq_true q664
       go_wp2
       go_roundg k1
       case measure=>have:=HK1.out;omega
       case rel=>exact⟨(wrap64 (x8_1+1)),rz,H',⟨by have:=HK1.out;omega⟩,by repeat(first|exact Drawn0.refl _|apply Drawn0.step)⟩
     ·rw [if_neg c5]at H;exact absurd H (by simp)
    ·rw [if_neg c4]at H;exact absurd H (by simp)
   ·rw [if_neg c3]at H;have c3b0:=decide_eq_false c3;clear c3;obtain rfl:=Option.some.inj H
    go_wp2
    go_ret
    exact⟨rz,by repeat(first|exact Drawn0.refl _|apply Drawn0.step)⟩
end
section
def slices_Contains_int_int.f (k:Nat) (l0:List Int) (a1:Int):Option (Bool):=(slices_Index_int_int.f k l0 a1).bind fun t665=>(some (decide (t665≥0)))
theorem slices_Contains_int_int.mono:∀ a0 a1 k,LeO (slices_Contains_int_int.f k a0 a1) (slices_Contains_int_int.f (k+1) a0 a1):=by
 intro a0 a1 k;unfold slices_Contains_int_int.f
 repeat' with_reducible first
  |exact slices_Index_int_int.mono ..
  |exact LeO.refl ..
  |exact LeO.none ..
  |refine LeO.ite ?_ ?_
  |refine LeO.bind ?_ (fun _=>?_)
theorem slices_Contains_int_int.calls (k:Nat) (A0:Option Addr) (c0:Nat) (l0:List Int) (a1:Int) (r:Bool) (w:World) (hr0:Kd.C (Kd.int .i64) w A0 l0.length l0) (hc0:l0.length≤c0) (H:slices_Contains_int_int.f k l0 a1=some r):
  Calls Tryz.prog 88 #[.slice A0 l0.length c0,.int .i64 a1] w fun e w'=>e= .returned (.bool r)∧Drawn0 w w':=by
 have HR0:=m0 hr0;have HC0:=m0 hc0;clear hr0 hc0;unfold slices_Contains_int_int.f at H;replace H:=oa H;obtain⟨t665,A3,H⟩:=H;(try dsimp only at H);obtain rfl:=Option.some.inj H;go_enter Tryz.func88,Tryz.ntmps88
 go_wp2_with (first|((with_reducible refine gc 118 rfl ?_);refine gl (some 7) Tryz.func118 #[.slice A0 l0.length c0,.int .i64 a1] ?_;(with_reducible refine(slices_Index_int_int.calls k _ _ l0 a1 t665 _ ?side1 ?side2 A3.out).mono ?_);(case side1=>repeat(first|exact HR0.out|(with_reducible refine Kd.C_alloc ?_ _)|(with_reducible refine Kd.C_drewN ?_ _)|(with_reducible refine Kd.C_drew ?_)));(case side2=>exact HC0.out);rintro e w' ⟨rfl,⟨nd,rfl⟩⟩;refine⟨_,rfl,?_⟩))
 go_ret
 exact⟨rz,by repeat(first|exact Drawn0.refl _|apply Drawn0.step)⟩
end
section
def L_product.l0:Nat→Int→List Int→Int→Int→Option (Int×Bool)
 |0,_,_,_,_=>none
 |k+1,x4,x7,x8,x9=>if x9<x8 then(if 0≤x9 then(if x9<(x7.length:Int)then(if(wrap64 (x4*(rd x7 x9)))>1000000000 then(some (0,false))else(L_product.l0 k (wrap64 (x4*(rd x7 x9))) x7 x8 (wrap64 (x9+1))))else(none))else(none))else(some (x4,true))
def L_product.f (k:Nat) (l0:List Int):Option (Int×Bool):=L_product.l0 k 1 l0 (l0.length:Int) 0
theorem L_product.mono_l:∀ k,(∀ y0 y1 y2 y3,LeO (L_product.l0 k y0 y1 y2 y3) (L_product.l0 (k+1) y0 y1 y2 y3))
 |0=>fun _ _ _ _ r h=>by simp[L_product.l0]at h
 | k+1=>by
  have ih0:=L_product.mono_l k
  ·intro y0 y1 y2 y3;unfold L_product.l0
   repeat' with_reducible first
    |exact ih0 ..
    |exact LeO.refl ..
    |exact LeO.none ..
    |refine LeO.ite ?_ ?_
    |refine LeO.bind ?_ (fun _=>?_)
theorem L_product.mono:∀ a0 k,LeO (L_product.f k a0) (L_product.f (k+1) a0):=by
 intro a0 k;have ih0:=L_product.mono_l k;unfold L_product.f
 repeat' with_reducible first
  |exact ih0 ..
  |exact LeO.refl ..
  |exact LeO.none ..
  |refine LeO.ite ?_ ?_
  |refine LeO.bind ?_ (fun _=>?_)
theorem L_product.calls (k:Nat) (A0:Option Addr) (c0:Nat) (l0:List Int) (r1:Int) (r2:Bool) (w:World) (hr0:Kd.C (Kd.int .i64) w A0 l0.length l0) (hc0:l0.length≤c0) (H:L_product.f k l0=some (r1,r2)):
  Calls Tryz.prog 89 #[.slice A0 l0.length c0] w fun e w'=>e= .returned (.tuple #[.int .i64 r1,.bool r2])∧Drawn0 w w':=by
 have HR0:=m0 hr0;have HC0:=m0 hc0;clear hr0 hc0;unfold L_product.f at H;have H':=m0 H;clear H;go_enter Tryz.func89,Tryz.ntmps89
 go_wp2
 go_loopg [4,9] k (fun kq v4 v9 w'=>∃ (x4_1:Int) (x9_1:Int),v4= .int .i64 x4_1∧v9= .int .i64 x9_1∧Aside0 (L_product.l0 kq x4_1 l0 (l0.length:Int) x9_1=some (r1,r2))∧Aside0 (kq≤k)∧Drawn0 w w')
 case atStart=>exact⟨(1),(0),rz,rz,H',⟨Nat.le_refl _⟩,by repeat(first|exact Drawn0.refl _|apply Drawn0.step)⟩
 case round=>
  clear H';obtain⟨x4_1,x9_1,rfl,rfl,HA,HK1,⟨m1,rfl⟩⟩:=hrel
  cases gk with
  |zero=>exact absurd HA.out (by simp[L_product.l0])
  | succ k1=>
   have H:=HA.out;clear HA;simp only[L_product.l0]at H
   by_cases c2:x9_1<(l0.length:Int)
   ·rw [if_pos c2]at H;have c2b0:=decide_eq_true c2;clear c2
    by_cases c3:0≤x9_1
    ·rw [if_pos c3]at H;have c3b0:=decide_eq_true c3;clear c3
     by_cases c4:x9_1<(l0.length:Int)
     ·rw [if_pos c4]at H;have c4b0:=decide_eq_true c4;clear c4
      by_cases c5:(wrap64 (x4_1*(rd l0 x9_1)))>1000000000
      ·rw [if_pos c5]at H;have c5b0:=decide_eq_true c5;clear c5;simp only[Option.some.injEq,Prod.mk.injEq]at H;obtain⟨rfl,rfl⟩:=H;have p666:0≤(x9_1:Int):=od;have q666:x9_1<(l0.length:Int):=od;obtain⟨ad666,e666,hx666_0⟩:=Kd.at_int HR0.out x9_1 p666 q666
       cases e666
       replace p666:=eq_true p666;replace q666:=eq_true q666
       go_wp2
       go_ret2
       exact⟨rz,by repeat(first|exact Drawn0.refl _|apply Drawn0.step)⟩
      ·rw [if_neg c5]at H;have c5b0:=decide_eq_false c5;clear c5;have H':=m0 H;clear H;have p666:0≤(x9_1:Int):=od;have q666:x9_1<(l0.length:Int):=od;obtain⟨ad666,e666,hx666_0⟩:=Kd.at_int HR0.out x9_1 p666 q666
       cases e666
       replace p666:=eq_true p666;replace q666:=eq_true q666
       go_wp2
       go_roundg k1
       case measure=>have:=HK1.out;omega
       case rel=>exact⟨(wrap64 (x4_1*(rd l0 x9_1))),(wrap64 (x9_1+1)),rz,rz,H',⟨by have:=HK1.out;omega⟩,by repeat(first|exact Drawn0.refl _|apply Drawn0.step)⟩
     ·rw [if_neg c4]at H;exact absurd H (by simp)
    ·rw [if_neg c3]at H;exact absurd H (by simp)
   ·rw [if_neg c2]at H;have c2b0:=decide_eq_false c2;clear c2;simp only[Option.some.injEq,Prod.mk.injEq]at H;obtain⟨rfl,rfl⟩:=H
    go_wp2
    go_ret2
    exact⟨rz,by repeat(first|exact Drawn0.refl _|apply Drawn0.step)⟩
end
section
mutual
def L_factors_value.l0:Nat→List Int→List Int→Int→Int→Option (Int×Int×Bool)
  |0,_,_,_,_=>none
  |k+1,x4,x5,x23,x24=>if x24<x23 then(L_factors_value.l1 k x4 x5 x24 x23 x24 (x5.length:Int) 0)else((L_product.f k x4).bind fun bt676=>((L_product.f k x5).bind fun bt678=>(if bt676.2=true then(some (bt676.1,bt678.1,bt678.2))else(some (bt676.1,bt678.1,false)))))
def L_factors_value.l1:Nat→List Int→List Int→Int→Int→Int→Int→Int→Option (Int×Int×Bool)
  |0,_,_,_,_,_,_,_=>none
  |k+1,x4,x5,x6,x23,x24,x28,x29=>if x29<x28 then(if 0≤x6 then(if x6<(x4.length:Int)then(if 0≤x29 then(if x29<(x5.length:Int)then((L_divisor.f k (rd x4 x6) (rd x5 x29)).bind fun t682=>(if t682=0 then(none)else(L_factors_value.l1 k (x4.set (x6:Int).toNat (wrap64 (Int.tdiv (rd x4 x6) t682))) (x5.set (x29:Int).toNat (wrap64 (Int.tdiv (rd x5 x29) t682))) x6 x23 x24 x28 (wrap64 (x29+1)))))else(none))else(none))else(none))else(none))else(L_factors_value.l0 k x4 x5 x23 (wrap64 (x24+1)))
end
def L_factors_value.f (k:Nat) (l0_0:List Int) (l0_1:List Int):Option (Int×Int×Bool):=(slices_Clone_int_int.f l0_0).bind fun t669=>((slices_Clone_int_int.f l0_1).bind fun t672=>((slices_Contains_int_int.f k t669 0).bind fun t675=>(if t675=true then(some (0,1,true))else(L_factors_value.l0 k t669 t672 (t669.length:Int) 0))))
theorem L_factors_value.mono_l:∀ k,(∀ y0 y1 y2 y3,LeO (L_factors_value.l0 k y0 y1 y2 y3) (L_factors_value.l0 (k+1) y0 y1 y2 y3))∧(∀ y0 y1 y2 y3 y4 y5 y6,LeO (L_factors_value.l1 k y0 y1 y2 y3 y4 y5 y6) (L_factors_value.l1 (k+1) y0 y1 y2 y3 y4 y5 y6))
  |0=>⟨fun _ _ _ _ r h=>by simp[L_factors_value.l0]at h,fun _ _ _ _ _ _ _ r h=>by simp[L_factors_value.l1]at h⟩
  | k + 1=>by
    obtain⟨ih0,ih1⟩:=L_factors_value.mono_l k;refine⟨?_,?_⟩
    · intro y0 y1 y2 y3;unfold L_factors_value.l0
      repeat' with_reducible first
        |exact ih0 ..
        |exact ih1 ..
        |exact L_divisor.mono ..
        |exact L_product.mono ..
        |exact slices_Contains_int_int.mono ..
        |exact LeO.refl ..
        |exact LeO.none ..
        |refine LeO.ite ?_ ?_
        |refine LeO.bind ?_ (fun _=>?_)
    · intro y0 y1 y2 y3 y4 y5 y6;unfold L_factors_value.l1
      repeat' with_reducible first
        |exact ih0 ..
        |exact ih1 ..
        |exact L_divisor.mono ..
        |exact L_product.mono ..
        |exact slices_Contains_int_int.mono ..
        |exact LeO.refl ..
        |exact LeO.none ..
        |refine LeO.ite ?_ ?_
        |refine LeO.bind ?_ (fun _=>?_)
theorem L_factors_value.mono:∀ a0 a1 k,LeO (L_factors_value.f k a0 a1) (L_factors_value.f (k+1) a0 a1):=by
  intro a0 a1 k;obtain⟨ih0,ih1⟩:=L_factors_value.mono_l k;unfold L_factors_value.f
  repeat' with_reducible first
    |exact ih0 ..
    |exact ih1 ..
    |exact L_divisor.mono ..
    |exact L_product.mono ..
    |exact slices_Contains_int_int.mono ..
    |exact LeO.refl ..
    |exact LeO.none ..
    |refine LeO.ite ?_ ?_
    |refine LeO.bind ?_ (fun _=>?_)
def L_factors_value.T1:Bool×List (List Nat×List Nat):=(true,[([],[]),([0],[0]),([1],[1]),([],[]),([3],[3]),([4,2],[4]),([2,5,0,1,2],[2]),([5,6,0,1,2,3,4,5,6],[5])])
def L_factors_value.B1:List Nat:=[0,1,3,0,8,31,63,127]
theorem L_factors_value.tab1:rtab .any (opsOf Tryz.f63 1)=L_factors_value.T1:=by kernel_rfl
theorem L_factors_value.bits1:waitsOk L_factors_value.T1.2 L_factors_value.B1=true:=by kernel_rfl
def L_factors_value.T10:Bool×List (List Nat×List Nat):=(true,[([],[]),([],[]),([0,1],[0,1]),([2],[2]),([],[]),([],[]),([4,5],[4,5]),([6],[6]),([3,7],[3,7]),([8,8,0,1,2,3,4,5,6,7,8],[8])])
def L_factors_value.B10:List Nat:=[0,0,3,7,0,0,48,112,255,511]
theorem L_factors_value.tab10:rtab .any (opsOf Tryz.f63 10)=L_factors_value.T10:=by kernel_rfl
theorem L_factors_value.bits10:waitsOk L_factors_value.T10.2 L_factors_value.B10=true:=by kernel_rfl
def L_factors_value.T11:Bool×List (List Nat×List Nat):=(true,[([],[]),([],[]),([],[]),([],[]),([],[]),([],[]),([4,5],[4,5]),([6],[6]),([],[]),([7,8],[7,8]),([],[]),([],[]),([10,11],[10,11]),([12],[12]),([],[]),([13,14],[13,14]),([0,1,0,1,4,5,6,7,8,9,13],[0,1]),([16,9,0,1,4,5,6,7,8,9,13],[9,16]),([2,3,0,1,2,3,4,5,6,7,8,9,10,11,12,13,14,15,16,17],[2,3]),([18,15,17,0,1,2,3,4,5,6,7,8,9,10,11,12,13,14,15,16,17],[15,18])])
def L_factors_value.B11:List Nat:=[0,0,0,0,0,0,48,112,0,496,0,0,3072,7168,0,31744,16371,81907,262143,524287]
theorem L_factors_value.tab11:rtab .any (opsOf Tryz.f63 11)=L_factors_value.T11:=by kernel_rfl
theorem L_factors_value.bits11:waitsOk L_factors_value.T11.2 L_factors_value.B11=true:=by kernel_rfl
theorem L_factors_value.calls (k:Nat) (A0_0:Option Addr) (c0_0:Nat) (l0_0:List Int) (A0_1:Option Addr) (c0_1:Nat) (l0_1:List Int) (r1:Int) (r2:Int) (r3:Bool) (w:World) (hr0_0:Kd.C (Kd.int .i64) w A0_0 l0_0.length l0_0) (hc0_0:l0_0.length≤c0_0) (hr0_1:Kd.C (Kd.int .i64) w A0_1 l0_1.length l0_1) (hc0_1:l0_1.length≤c0_1) (H:L_factors_value.f k l0_0 l0_1=some (r1,r2,r3)):
    Calls Tryz.prog 63 #[.agg #[.slice A0_0 l0_0.length c0_0,.slice A0_1 l0_1.length c0_1]] w fun e w'=>e= .returned (.tuple #[.agg #[.int .i64 r1,.int .i64 r2],.bool r3])∧Below w.heap.size w w':=by
  have hu112:=Tryz.underlying112;have hu24:=Tryz.underlying24;have HR0_0:=m0 hr0_0;have HC0_0:=m0 hc0_0;clear hr0_0 hc0_0;have HR0_1:=m0 hr0_1;have HC0_1:=m0 hc0_1;clear hr0_1 hc0_1;have HB:=m0 (Below.refl w.heap.size w);unfold L_factors_value.f at H;replace H:=oa H;obtain⟨t669,A2,H⟩:=H;(try dsimp only at H);replace H:=oa H;obtain⟨t672,A3,H⟩:=H;(try dsimp only at H);replace H:=oa H;obtain⟨t675,A4,H⟩:=H;(try dsimp only at H)
  by_cases c5:t675=true
  · subst c5;rw[if_pos rfl]at H;simp only[Option.some.injEq,Prod.mk.injEq]at H;obtain⟨rfl,rfl,rfl⟩:=H;go_enter Tryz.func63,Tryz.ntmps63
    try go_wp2_with (first|((with_reducible refine ga 1 rfl ?_);refine be 1 112 #[.slice A0_0 l0_0.length c0_0,.slice A0_1 l0_1.length c0_1] ?_;intro gb667 hg w6 hbox hb;have BK667:=m0 hbox;have GE667:=gw w hg;replace HB:=sb HB hb;clear hb hbox hg)|((with_reducible refine ga 2 rfl ?_);refine be 2 24 #[.int .i64 0,.int .i64 0] ?_;intro gb668 hg w7 hbox hb;have BK668:=m0 hbox;have GE668:=gw w hg;replace HB:=sb HB hb;have NB667_668:=nl BK667 hg;have NB668_667:=ng (nl BK667 hg);replace BK667:=bb BK667 hb;clear hb hbox hg))
    replace BK667:=bd BK667;replace BK668:=bd BK668;replace HB:=sd HB;refine start_ (n:=8) (S:=fun w'=>w'.cell? ⟨gb667,0,none⟩=some (.slice A0_0 l0_0.length c0_0)∧w'.cell? ⟨gb667,1,none⟩=some (.slice A0_1 l0_1.length c0_1)) (ds:=[]) _ (by kernel_rfl) rfl rfl cz (fun hH=>?_);refine with_tabW L_factors_value.tab1 L_factors_value.bits1 (fun HT_ HW_=>?_);generalize w7.drew=w8 at BK667 BK668 HB hH ⊢;refine pZ 0 (some 13) #[true,false,false,false,false,false,false,false] HT_ ?_;refine pZ 3 (some 16) #[true,false,false,true,false,false,false,false] HT_ ?_;refine takeZ 1 (some 14) #[true,true,false,true,false,false,false,false] (tw HT_ HW_) hH ?_;refine takeZ 4 (some 17) #[true,true,false,true,true,false,false,false] (tw HT_ HW_) hH ?_;refine oneZ 2 (some 15) #[true,true,true,true,true,false,false,false] (o1 HT_) fun K hK=>?_;refine gz Tryz.func87 #[.slice A0_0 l0_0.length c0_0] ?_
    with_reducible refine(slices_Clone_int_int.calls _ _ l0_0 t669 _ ?side1 ?side2 A2.out).mono ?_
    (case side1=>exact cb HR0_0 HB)
    (case side2=>exact HC0_0.out)
    rintro e w9 ⟨v670,rfl,ho0,hb⟩;refine⟨_,rfl,?_⟩;have HO671:=m0 (Kd.R_lower ho0 (below_size bz));replace BK667:=bb BK667 hb;replace BK668:=bb BK668 hb;replace HB:=sb HB hb;(try clear hb);(try clear ho0);refine hK.out _ _ cz (fun hH=>?_);clear hK K;refine nz 15 ?_;refine oneZ 5 (some 18) #[true,true,true,true,true,true,false,false] (o1 HT_) fun K hK=>?_;refine gz Tryz.func87 #[.slice A0_1 l0_1.length c0_1] ?_
    with_reducible refine(slices_Clone_int_int.calls _ _ l0_1 t672 _ ?side1 ?side2 A3.out).mono ?_
    (case side1=>exact cb HR0_1 HB)
    (case side2=>exact HC0_1.out)
    rintro e w10 ⟨v673,rfl,ho0,hb⟩;refine⟨_,rfl,?_⟩;have HO674:=m0 (Kd.R_lower (Kd.R_new' ho0 (Kd.R_lt (br HO671.out))) (below_size bz));replace HO671:=m0 (Kd.R_elder' (br HO671.out) (Kd.R_base ho0) hb);replace BK667:=bb BK667 hb;replace BK668:=bb BK668 hb;replace HB:=sb HB hb;(try clear hb);(try clear ho0);refine hK.out _ _ cz (fun hH=>?_);clear hK K;refine nz 18 ?_;refine pZ 6 (some 4) #[true,true,true,true,true,true,true,false] HT_ ?_;refine pZ 7 (some 5) #[true,true,true,true,true,true,true,true] HT_ ?_;refine done_ (done_of HT_.out (by kernel_rfl)) ?_;obtain⟨Ao11,co11,eo11⟩:=Kd.R_slice HO671.out;subst eo11
    try go_wp2_with (first|((with_reducible refine gc 88 rfl ?_);refine gl (some 20) Tryz.func88 #[.slice Ao11 t669.length co11,.int .i64 0] ?_;(with_reducible refine(slices_Contains_int_int.calls k _ _ t669 0 true _ ?side1 ?side2 A4.out).mono ?_);(case side1=>exact bc (Kd.R_reads' HO671.out).2.2);(case side2=>exact(Kd.R_reads' HO671.out).2.1);rintro e w' ⟨rfl,⟨nd,rfl⟩⟩;refine⟨_,rfl,?_⟩;(try(rw[drewN_self w10];generalize hq_:World.drewN w10 _=w10;have n0_:Aside0 (Kd.R (Kd.int .i64) 3 w10 w.heap.size (fun k_=>some k_≠(v673:Value).ownBlock) (.slice Ao11 t669.length co11) t669):=⟨by rw[← hq_];exact(by(with_reducible repeat(first|apply Kd.R_alloc|apply Kd.R_drewN|apply Kd.R_drew));exact Kd.R_mono HO671.out (fun _ hk=>hk.2))⟩;have n1_:Aside0 (Kd.R (Kd.int .i64) 3 w10 w.heap.size (fun k_=>some k_≠(.slice Ao11 t669.length co11:Value).ownBlock) v673 t672):=⟨by rw[← hq_];exact(by(with_reducible repeat(first|apply Kd.R_alloc|apply Kd.R_drewN|apply Kd.R_drew));exact Kd.R_mono HO674.out (fun _ hk=>hk.2))⟩;have n2_:=gd BK667 hq_;have n3_:=gd BK668 hq_;have n4_:=gs HB hq_;clear HO671 HO674 BK667 BK668 HB hq_;have HO671:=n0_;have HO674:=n1_;have BK667:=n2_;have BK668:=n3_;have HB:=n4_;clear n0_ n1_ n2_ n3_ n4_));have hnb12:=NB668_667.out;have hnc12:=NB667_668.out;obtain⟨hcz13_0,hcz13_1,hfz13_0,hfz13_1⟩:=b2 BK668))
    refine bodyPost_ret (results_ct rfl _ _ gb668 24 #[.int .i64 0,.int .i64 1] (0,0) _ rfl (bq BK668.out) Tryz.underlying24 rfl (by kernel_rfl)) rfl ?_;exact ez
  · replace c5 := Bool.eq_false_iff.mpr c5;subst c5;rw[if_neg (show ¬ (false=true) by decide)]at H;have H':=m0 H;clear H;go_enter Tryz.func63,Tryz.ntmps63
    try go_wp2_with (first|((with_reducible refine ga 1 rfl ?_);refine be 1 112 #[.slice A0_0 l0_0.length c0_0,.slice A0_1 l0_1.length c0_1] ?_;intro gb667 hg w14 hbox hb;have BK667:=m0 hbox;have GE667:=gw w hg;replace HB:=sb HB hb;clear hb hbox hg)|((with_reducible refine ga 2 rfl ?_);refine be 2 24 #[.int .i64 0,.int .i64 0] ?_;intro gb668 hg w15 hbox hb;have BK668:=m0 hbox;have GE668:=gw w hg;replace HB:=sb HB hb;have NB667_668:=nl BK667 hg;have NB668_667:=ng (nl BK667 hg);replace BK667:=bb BK667 hb;clear hb hbox hg))
    replace BK667:=bd BK667;replace BK668:=bd BK668;replace HB:=sd HB;refine start_ (n:=8) (S:=fun w'=>w'.cell? ⟨gb667,0,none⟩=some (.slice A0_0 l0_0.length c0_0)∧w'.cell? ⟨gb667,1,none⟩=some (.slice A0_1 l0_1.length c0_1)) (ds:=[]) _ (by kernel_rfl) rfl rfl cz (fun hH=>?_);refine with_tabW L_factors_value.tab1 L_factors_value.bits1 (fun HT_ HW_=>?_);generalize w15.drew=w16 at BK667 BK668 HB hH ⊢;refine pZ 0 (some 13) #[true,false,false,false,false,false,false,false] HT_ ?_;refine pZ 3 (some 16) #[true,false,false,true,false,false,false,false] HT_ ?_;refine takeZ 1 (some 14) #[true,true,false,true,false,false,false,false] (tw HT_ HW_) hH ?_;refine takeZ 4 (some 17) #[true,true,false,true,true,false,false,false] (tw HT_ HW_) hH ?_;refine oneZ 2 (some 15) #[true,true,true,true,true,false,false,false] (o1 HT_) fun K hK=>?_;refine gz Tryz.func87 #[.slice A0_0 l0_0.length c0_0] ?_
    with_reducible refine(slices_Clone_int_int.calls _ _ l0_0 t669 _ ?side1 ?side2 A2.out).mono ?_
    (case side1=>exact cb HR0_0 HB)
    (case side2=>exact HC0_0.out)
    rintro e w17 ⟨v670,rfl,ho0,hb⟩;refine⟨_,rfl,?_⟩;have HO671:=m0 (Kd.R_lower ho0 (below_size bz));replace BK667:=bb BK667 hb;replace BK668:=bb BK668 hb;replace HB:=sb HB hb;(try clear hb);(try clear ho0);refine hK.out _ _ cz (fun hH=>?_);clear hK K;refine nz 15 ?_;refine oneZ 5 (some 18) #[true,true,true,true,true,true,false,false] (o1 HT_) fun K hK=>?_;refine gz Tryz.func87 #[.slice A0_1 l0_1.length c0_1] ?_
    with_reducible refine(slices_Clone_int_int.calls _ _ l0_1 t672 _ ?side1 ?side2 A3.out).mono ?_
    (case side1=>exact cb HR0_1 HB)
    (case side2=>exact HC0_1.out)
    rintro e w18 ⟨v673,rfl,ho0,hb⟩;refine⟨_,rfl,?_⟩;have HO674:=m0 (Kd.R_lower (Kd.R_new' ho0 (Kd.R_lt (br HO671.out))) (below_size bz));replace HO671:=m0 (Kd.R_elder' (br HO671.out) (Kd.R_base ho0) hb);replace BK667:=bb BK667 hb;replace BK668:=bb BK668 hb;replace HB:=sb HB hb;(try clear hb);(try clear ho0);refine hK.out _ _ cz (fun hH=>?_);clear hK K;refine nz 18 ?_;refine pZ 6 (some 4) #[true,true,true,true,true,true,true,false] HT_ ?_;refine pZ 7 (some 5) #[true,true,true,true,true,true,true,true] HT_ ?_;refine done_ (done_of HT_.out (by kernel_rfl)) ?_;obtain⟨Ao19,co19,eo19⟩:=Kd.R_slice HO671.out;subst eo19
    try go_wp2_with (first|((with_reducible refine gc 88 rfl ?_);refine gl (some 20) Tryz.func88 #[.slice Ao19 t669.length co19,.int .i64 0] ?_;(with_reducible refine(slices_Contains_int_int.calls k _ _ t669 0 false _ ?side1 ?side2 A4.out).mono ?_);(case side1=>exact bc (Kd.R_reads' HO671.out).2.2);(case side2=>exact(Kd.R_reads' HO671.out).2.1);rintro e w' ⟨rfl,⟨nd,rfl⟩⟩;refine⟨_,rfl,?_⟩))
    (try simp only[Act.put,List.setIfInBounds_toArray,List.set_cons_zero,List.set_cons_succ])
    go_loopg [24] k (fun kq v24 w'=>∃ (x4_1:List Int) (x5_1:List Int) (x24_1:Int),v24= .int .i64 x24_1∧Aside0 (L_factors_value.l0 kq x4_1 x5_1 (t669.length:Int) x24_1=some (r1,r2,r3))∧Aside0 (kq≤k)∧Aside0 (Kd.R (Kd.int .i64) 3 w' w.heap.size (fun k_=>some k_≠(v673:Value).ownBlock) (.slice Ao19 t669.length co19) x4_1)∧Aside0 (Kd.R (Kd.int .i64) 3 w' w.heap.size (fun k_=>some k_≠((.slice Ao19 t669.length co19):Value).ownBlock) v673 x5_1)∧Aside0 (w'.heap[gb667]?=some (.cells #[(.slice A0_0 l0_0.length c0_0),(.slice A0_1 l0_1.length c0_1)] 112 (0,0)))∧Aside0 (w'.heap[gb668]?=some (.cells #[.int .i64 0,.int .i64 0] 24 (0,0)))∧Aside0 (Below w.heap.size w w'))
    case atStart=>exact⟨(t669),(t672),(0),rz,H',⟨Nat.le_refl _⟩,⟨by (with_reducible repeat(first|apply Kd.R_alloc|apply Kd.R_drewN|apply Kd.R_drew));exact Kd.R_mono HO671.out (fun _ hk=>hk.2)⟩,⟨by (with_reducible repeat(first|apply Kd.R_alloc|apply Kd.R_drewN|apply Kd.R_drew));exact Kd.R_mono HO674.out (fun _ hk=>hk.2)⟩,⟨bk BK667.out⟩,⟨bk BK668.out⟩,⟨bz⟩⟩
    case round =>
      clear H'
      try clear hcz13_0
      try clear hcz13_1
      try clear hfz13_0
      try clear hfz13_1
      obtain⟨x4_1,x5_1,x24_1,rfl,HA,HK1,HO_4,HO_5,BK667,BK668,HB⟩:=hrel;have hl4_1:=(Kd.R_reads' HO_4.out).1;rw[hl4_1]at HO_4;(try simp only[hl4_1]);(try simp only[hl4_1]at BK667);(try simp only[hl4_1]at BK668);(try simp only[hl4_1]at HO_5)
      cases gk with
      |zero=>exact absurd HA.out (by simp[L_factors_value.l0])
      | succ k1 =>
        have H:=HA.out;clear HA;simp only[L_factors_value.l0]at H
        by_cases c20:x24_1<(t669.length:Int)
        · rw [if_pos c20] at H;have c20b0:=decide_eq_true c20;(try simp only[hl4_1]at c20b0);clear c20;have H':=m0 H;clear H;obtain⟨Ao21,co21,eo21⟩:=Kd.R_slice HO_5.out;subst eo21
          go_wp2
          (try simp only[Act.put,List.setIfInBounds_toArray,List.set_cons_zero,List.set_cons_succ])
          go_loopg [29] k1 (fun kq v29 w'=>∃ (x4_2:List Int) (x5_2:List Int) (x29_2:Int),v29= .int .i64 x29_2∧Aside0 (L_factors_value.l1 kq x4_2 x5_2 x24_1 (t669.length:Int) x24_1 (x5_1.length:Int) x29_2=some (r1,r2,r3))∧Aside0 (kq≤k1)∧Aside0 (Kd.R (Kd.int .i64) 3 w' w.heap.size (fun k_=>some k_≠((.slice Ao21 x5_1.length co21):Value).ownBlock) (.slice Ao19 x4_1.length co19) x4_2)∧Aside0 (Kd.R (Kd.int .i64) 3 w' w.heap.size (fun k_=>some k_≠((.slice Ao19 x4_1.length co19):Value).ownBlock) (.slice Ao21 x5_1.length co21) x5_2)∧Aside0 (w'.heap[gb667]?=some (.cells #[(.slice A0_0 l0_0.length c0_0),(.slice A0_1 l0_1.length c0_1)] 112 (0,0)))∧Aside0 (w'.heap[gb668]?=some (.cells #[.int .i64 0,.int .i64 0] 24 (0,0)))∧Aside0 (Below w.heap.size w w'))
          case atStart=>exact⟨(x4_1),(x5_1),(0),rz,H',⟨Nat.le_refl _⟩,⟨by (try simp only[hl4_1]);(with_reducible repeat(first|apply Kd.R_alloc|apply Kd.R_drewN|apply Kd.R_drew));exact HO_4.out⟩,⟨by (try simp only[hl4_1]);(with_reducible repeat(first|apply Kd.R_alloc|apply Kd.R_drewN|apply Kd.R_drew));exact HO_5.out⟩,⟨by (try simp only[hl4_1]);(with_reducible repeat(first|refine blk_drewN ?_ _|refine blk_drew ?_|refine blk_alloc ?_ _));exact BK667.out⟩,⟨by (try simp only[hl4_1]);(with_reducible repeat(first|refine blk_drewN ?_ _|refine blk_drew ?_|refine blk_alloc ?_ _));exact BK668.out⟩,⟨bz⟩⟩
          case round =>
            clear H'
            try clear hcz13_0
            try clear hcz13_1
            try clear hfz13_0
            try clear hfz13_1
            obtain⟨x4_2,x5_2,x29_2,rfl,HA,HK2,HO_4,HO_5,BK667,BK668,HB⟩:=hrel;have hl4_2:=(Kd.R_reads' HO_4.out).1;rw[hl4_2]at HO_4;(try simp only[hl4_2]);(try simp only[hl4_2]at BK667);(try simp only[hl4_2]at BK668);(try simp only[hl4_2]at HO_5);have hl5_2:=(Kd.R_reads' HO_5.out).1;rw[hl5_2]at HO_5;(try simp only[hl5_2]);(try simp only[hl5_2]at BK667);(try simp only[hl5_2]at BK668);(try simp only[hl5_2]at HO_4)
            cases gk with
            |zero=>exact absurd HA.out (by simp[L_factors_value.l1])
            | succ k2 =>
              have H:=HA.out;clear HA;simp only[L_factors_value.l1]at H
              by_cases c22:x29_2<(x5_1.length:Int)
              · rw [if_pos c22]at H;have c22b0:=decide_eq_true c22;(try simp only[hl4_1]at c22b0);(try simp only[hl4_2]at c22b0);(try simp only[hl5_2]at c22b0);clear c22
                by_cases c23:0≤x24_1
                · rw [if_pos c23]at H;have c23b0:=decide_eq_true c23;clear c23
                  by_cases c24:x24_1<(x4_2.length:Int)
                  · rw [if_pos c24]at H;have c24b0:=decide_eq_true c24;(try simp only[hl4_1]at c24b0);(try simp only[hl4_2]at c24b0);(try simp only[hl5_2]at c24b0);clear c24
                    by_cases c25:0≤x29_2
                    · rw [if_pos c25]at H;have c25b0:=decide_eq_true c25;clear c25
                      by_cases c26:x29_2<(x5_2.length:Int)
                      · rw [if_pos c26]at H;have c26b0:=decide_eq_true c26;(try simp only[hl4_1]at c26b0);(try simp only[hl4_2]at c26b0);(try simp only[hl5_2]at c26b0);clear c26;replace H:=oa H;obtain⟨t682,A27,H⟩:=H;(try dsimp only at H)
                        by_cases c28:t682=0
                        · rw[if_pos c28]at H;exact absurd H (by simp)
                        · rw[if_neg c28]at H;have c28b0:=beq_eq_false_iff_ne.mpr c28;have c28b1:=bne_iff_ne.mpr c28;obtain⟨y685,hy685⟩:∃ y_:List Int,y_=(x4_2.set (x24_1:Int).toNat (wrap64 (Int.tdiv (rd x4_2 x24_1) t682))):=⟨_,rfl⟩;replace H:(L_factors_value.l1 k2 y685 (x5_2.set (x29_2:Int).toNat (wrap64 (Int.tdiv (rd x5_2 x29_2) t682))) x24_1 (t669.length:Int) x24_1 (x5_1.length:Int) (wrap64 (x29_2+1)))=some (r1,r2,r3):=by first|(rw[hy685];with_reducible exact H)|(have H2_:=(Option.bind_some _ _).symm.trans H;rw[hy685];with_reducible exact H2_)|(have H2_:=(Option.bind_some _ _).symm.trans H;with_reducible exact H2_)|with_reducible exact H|(rw[hy685];exact H)|exact H
                          have Ny685:=m0 hy685;clear hy685;obtain⟨y686,hy686⟩:∃ y_:List Int,y_=(x5_2.set (x29_2:Int).toNat (wrap64 (Int.tdiv (rd x5_2 x29_2) t682))):=⟨_,rfl⟩;replace H:(L_factors_value.l1 k2 y685 y686 x24_1 (t669.length:Int) x24_1 (x5_1.length:Int) (wrap64 (x29_2+1)))=some (r1,r2,r3):=by first|(rw[hy686];with_reducible exact H)|(have H2_:=(Option.bind_some _ _).symm.trans H;rw[hy686];with_reducible exact H2_)|(have H2_:=(Option.bind_some _ _).symm.trans H;with_reducible exact H2_)|with_reducible exact H|(rw[hy686];exact H)|exact H
                          have Ny686:=m0 hy686;clear hy686;have H':=m0 H;clear H
                          try go_wp2
                          replace HO_4:=m0 (Kd.R_drew HO_4.out);replace HO_5:=m0 (Kd.R_drew HO_5.out);replace BK667:=bd BK667;replace BK668:=bd BK668;replace HB:=sd HB;have p680:0≤(x24_1:Int):=od;have q680:x24_1<(x4_2.length:Int):=od;obtain⟨ad680,e680,hx680_0⟩:=Kd.at_int (Kd.R_reads' HO_4.out).2.2 x24_1 p680 q680
                          cases e680
                          replace p680:=eq_true p680;replace q680:=eq_true q680;have p681:0≤(x29_2:Int):=od;have q681:x29_2<(x5_2.length:Int):=od;obtain⟨ad681,e681,hx681_0⟩:=Kd.at_int (Kd.R_reads' HO_5.out).2.2 x29_2 p681 q681
                          cases e681
                          replace p681:=eq_true p681;replace q681:=eq_true q681;refine start_ (n:=10) (S:=fun w'=>w'.cell? (ad680.add (x24_1).toNat)=some (.int .i64 (rd x4_2 x24_1))∧w'.cell? (ad681.add (x29_2).toNat)=some (.int .i64 (rd x5_2 x29_2))) (ds:=[]) _ (by kernel_rfl) rfl rfl ⟨hx680_0,hx681_0⟩ (fun hH=>?_);refine with_tabW L_factors_value.tab10 L_factors_value.bits10 (fun HT_ HW_=>?_);generalize wr.drew=w31 at HO_4 HO_5 BK667 BK668 HB hx680_0 hx681_0 hH ⊢;refine pZ 0 (some 32) #[true,false,false,false,false,false,false,false,false,false] HT_ ?_;refine pZ 1 (some 33) #[true,true,false,false,false,false,false,false,false,false] HT_ ?_;refine pZ 2 (some 34) #[true,true,true,false,false,false,false,false,false,false] HT_ ?_;refine pZ 4 (some 36) #[true,true,true,false,true,false,false,false,false,false] HT_ ?_;refine pZ 5 (some 37) #[true,true,true,false,true,true,false,false,false,false] HT_ ?_;refine pZ 6 (some 38) #[true,true,true,false,true,true,true,false,false,false] HT_ ?_;refine takeZ 3 (some 35) #[true,true,true,true,true,true,true,false,false,false] (tw HT_ HW_) hH ?_;refine takeZ 7 (some 39) #[true,true,true,true,true,true,true,true,false,false] (tw HT_ HW_) hH ?_;refine oneZ 8 (some 40) #[true,true,true,true,true,true,true,true,true,false] (o1 HT_) fun K hK=>?_;refine gz Tryz.func84 #[.int .i64 (rd x4_2 x24_1),.int .i64 (rd x5_2 x29_2)] ?_
                          with_reducible refine(L_divisor.calls k2 (rd x4_2 x24_1) (rd x5_2 x29_2) t682 _ A27.out).mono ?_
                          rintro e w32 ⟨rfl,hb⟩;have HS0_:=(hb.cell (World.block_lt_of_cell? _ _ (hH.1))).trans (hH.1);have HS1_:=(hb.cell (World.block_lt_of_cell? _ _ (hH.2))).trans (hH.2);refine⟨_,rfl,?_⟩;replace HO_4:=rb HO_4 hb;replace HO_5:=rb HO_5 hb;replace BK667:=bb BK667 hb;replace BK668:=bb BK668 hb;replace HB:=sb HB hb;(try clear hb);refine hK.out _ _ ⟨HS0_,HS1_⟩ (fun hH=>?_);clear hK K;refine nz 40 ?_;refine pZ 9 (some 8) #[true,true,true,true,true,true,true,true,true,true] HT_ ?_;refine done_ (done_of HT_.out (by kernel_rfl)) ?_
                          try go_wp2
                          replace HO_4:=m0 (Kd.R_drew HO_4.out);replace HO_5:=m0 (Kd.R_drew HO_5.out);replace BK667:=bd BK667;replace BK668:=bd BK668;replace HB:=sd HB;have p683:0≤(x24_1:Int):=od;have q683:x24_1<(x4_2.length:Int):=od;obtain⟨ad683,e683,hx683_0⟩:=Kd.at_int (Kd.R_reads' HO_4.out).2.2 x24_1 p683 q683;obtain rfl:ad680=ad683:=(by injection e683);replace p683:=eq_true p683;replace q683:=eq_true q683;have p684:0≤(x29_2:Int):=od;have q684:x29_2<(x5_2.length:Int):=od;obtain⟨ad684,e684,hx684_0⟩:=Kd.at_int (Kd.R_reads' HO_5.out).2.2 x29_2 p684 q684;obtain rfl:ad681=ad684:=(by injection e684);replace p684:=eq_true p684;replace q684:=eq_true q684;have p29:0≤(x24_1:Int):=od;have q29:(x24_1:Int)<((x4_2.length:Int):Int):=od;obtain⟨go29,co29,eo29,gb29,gl29,cl29,HG29⟩:=Kd.R_form HO_4.out (by omega)
                          (first|cases eo29|(injection eo29 with ea_ en_ ec_;(first|subst ea_|(injection ea_ with ea_;subst ea_));subst ec_;clear en_))
                          have GB29:=m0 gb29;have GG29:=m0 HG29;clear gb29 gl29 HG29
                          (first|simp only[add_plain]at hx680_0|skip)
                          (first|simp only[add_plain]at hx683_0|skip)
                          obtain⟨hx29_0,hf29_0⟩:=Kd.R_celln 0 HO_4.out (x24_1:Int) p29 q29;replace p29:=eq_true p29;replace q29:=eq_true q29;have HP34:=Kd.R_putn HO_4.out (x24_1:Int) (wrap64 (Int.tdiv (rd x4_2 x24_1) t682));rw[← Ny685.out]at HP34;have HQ34:=m0 HP34;clear HP34;have p30:0≤(x29_2:Int):=od;have q30:(x29_2:Int)<((x5_2.length:Int):Int):=od;obtain⟨go30,co30,eo30,gb30,gl30,cl30,HG30⟩:=Kd.R_form HO_5.out (by omega)
                          (first|cases eo30|(injection eo30 with ea_ en_ ec_;(first|subst ea_|(injection ea_ with ea_;subst ea_));subst ec_;clear en_))
                          have GB30:=m0 gb30;have GG30:=m0 HG30;clear gb30 gl30 HG30
                          (first|simp only[add_plain]at hx681_0|skip)
                          (first|simp only[add_plain]at hx684_0|skip)
                          obtain⟨hx30_0,hf30_0⟩:=Kd.R_celln 0 (Kd.R_far (p:=⟨go29,(x24_1:Int).toNat,none⟩) (Kd.R_mono HO_5.out (fun k_ hk=>(⟨hk,fun e_=>hk (by rw[e_];rfl)⟩:_∧k_≠go29))) (fun _ hk=>hk.2) (.int .i64 (wrap64 (Int.tdiv (rd x4_2 x24_1) t682)))) (x29_2:Int) p30 q30;replace p30:=eq_true p30;replace q30:=eq_true q30;have HP35:=Kd.R_putn (Kd.R_far (p:=⟨go29,(x24_1:Int).toNat,none⟩) (Kd.R_mono HO_5.out (fun k_ hk=>(⟨hk,fun e_=>hk (by rw[e_];rfl)⟩:_∧k_≠go29))) (fun _ hk=>hk.2) (.int .i64 (wrap64 (Int.tdiv (rd x4_2 x24_1) t682)))) (x29_2:Int) (wrap64 (Int.tdiv (rd x5_2 x29_2) t682));rw[← Ny686.out]at HP35;have HQ35:=m0 HP35;clear HP35;refine start_ (n:=20) (S:=fun w'=>w'.cell? ⟨go29,(x24_1).toNat,none⟩=some (.int .i64 (rd x4_2 x24_1))∧w'.cell? ⟨go30,(x29_2).toNat,none⟩=some (.int .i64 (rd x5_2 x29_2))) (ds:=[17,19]) _ (by kernel_rfl) rfl rfl ⟨hx683_0,hx684_0⟩ (fun hH=>?_);refine with_tabW L_factors_value.tab11 L_factors_value.bits11 (fun HT_ HW_=>?_);generalize w32.drew=w33 at HO_4 HO_5 BK667 BK668 HB GG29 GG30 HQ34 HQ35 hf29_0 hf30_0 hx29_0 hx30_0 hx680_0 hx681_0 hx683_0 hx684_0 hH ⊢;refine pZ 0 (some 41) (bs 20 1) HT_ ?_;refine pZ 1 (some 42) (bs 20 3) HT_ ?_;refine pZ 2 (some 43) (bs 20 7) HT_ ?_;refine pZ 3 (some 44) (bs 20 15) HT_ ?_;refine pZ 4 (some 45) (bs 20 31) HT_ ?_;refine pZ 5 (some 46) (bs 20 63) HT_ ?_;refine pZ 6 (some 47) (bs 20 127) HT_ ?_;refine pZ 8 (some 49) (bs 20 383) HT_ ?_;refine pZ 10 (some 51) (bs 20 1407) HT_ ?_;refine pZ 11 (some 52) (bs 20 3455) HT_ ?_;refine pZ 12 (some 53) (bs 20 7551) HT_ ?_;refine pZ 14 (some 55) (bs 20 23935) HT_ ?_;refine takeZ 7 (some 48) (bs 20 24063) (tw HT_ HW_) hH ?_;refine pZ 9 (some 50) (bs 20 24575) HT_ ?_;refine takeZ 13 (some 54) (bs 20 32767) (tw HT_ HW_) hH ?_;refine pZ 15 (some 56) (bs 20 65535) HT_ ?_;refine pZ 16 (some 57) (bs 20 131071) HT_ ?_;refine last_ (i:=17) (N:=none) (bs 20 262143) rfl rfl (o1 HT_) (by decide) (fun K hK=>?_);refine skip_ (w1:=?_) (by rfl) rfl ?_ ?_;rotate_left
                          · go_simp
                            rfl
                          refine hK.out _ _ ?_;clear hK K;refine pZ 18 (some 58) (bs 20 524287) HT_ ?_;refine last_ (i:=19) (N:=none) (bs 20 1048575) rfl rfl (o1 HT_) (by decide) (fun K hK=>?_);refine skip_ (w1:=?_) (by rfl) rfl ?_ ?_;rotate_left
                          · go_simp
                            rfl
                          refine hK.out _ _ ?_;clear hK K;refine done_ (done_of HT_.out (by kernel_rfl)) ?_
                          try go_wp2
                          (try simp only[← hl4_2, ←hl5_2])
                          go_roundg k2
                          case measure=>have:=HK1.out;have:=HK2.out;omega
                          case rel=>exact⟨(y685),(y686),(wrap64 (x29_2+1)),rz,H',⟨by have:=HK1.out;have:=HK2.out;omega⟩,⟨by (try simp only[hl4_1]);(try simp only[hl4_2]);(try simp only[hl5_2]);(with_reducible repeat(first|apply Kd.R_alloc|apply Kd.R_drewN|apply Kd.R_drew));exact Kd.R_mono (Kd.R_far (p:=⟨go30,(x29_2:Int).toNat,none⟩) (Kd.R_mono HQ34.out (fun k_ hk=>(⟨hk,fun e_=>hk (by rw[e_];rfl)⟩:_∧k_≠go30))) (fun _ hk=>hk.2) (.int .i64 (wrap64 (Int.tdiv (rd x5_2 x29_2) t682)))) (fun _ hk=>hk.1)⟩,⟨by (try simp only[hl4_1]);(try simp only[hl4_2]);(try simp only[hl5_2]);(with_reducible repeat(first|apply Kd.R_alloc|apply Kd.R_drewN|apply Kd.R_drew));exact Kd.R_mono HQ35.out (fun _ hk=>hk.1)⟩,⟨by (try simp only[hl4_1]);(try simp only[hl4_2]);(try simp only[hl5_2]);(with_reducible repeat(first|refine blk_drewN ?_ _|refine blk_drew ?_|refine blk_alloc ?_ _));refine blk_far ?_ (by have h_:=Kd.R_ne HO_5.out BK667.out (by decide);intro e_;exact h_ (by rw[e_];rfl)) _;(with_reducible repeat(first|refine blk_drewN ?_ _|refine blk_drew ?_|refine blk_alloc ?_ _));refine blk_far ?_ (by have h_:=Kd.R_ne HO_4.out BK667.out (by decide);intro e_;exact h_ (by rw[e_];rfl)) _;(with_reducible repeat(first|refine blk_drewN ?_ _|refine blk_drew ?_|refine blk_alloc ?_ _));exact BK667.out⟩,⟨by (try simp only[hl4_1]);(try simp only[hl4_2]);(try simp only[hl5_2]);(with_reducible repeat(first|refine blk_drewN ?_ _|refine blk_drew ?_|refine blk_alloc ?_ _));refine blk_far ?_ (by have h_:=Kd.R_ne HO_5.out BK668.out (by decide);intro e_;exact h_ (by rw[e_];rfl)) _;(with_reducible repeat(first|refine blk_drewN ?_ _|refine blk_drew ?_|refine blk_alloc ?_ _));refine blk_far ?_ (by have h_:=Kd.R_ne HO_4.out BK668.out (by decide);intro e_;exact h_ (by rw[e_];rfl)) _;(with_reducible repeat(first|refine blk_drewN ?_ _|refine blk_drew ?_|refine blk_alloc ?_ _));exact BK668.out⟩,⟨by repeat(first|(with_reducible first|exact HB.out|apply below_alloc|apply pw_below_drewN|apply below_drew1|refine below_set ?_ GB29.out|refine below_set ?_ GB30.out|refine below_set ?_ GE667.out|refine below_set ?_ GE668.out)|exact HB.out)⟩⟩
                      · rw[if_neg c26]at H;exact absurd H (by simp)
                    · rw[if_neg c25]at H;exact absurd H (by simp)
                  · rw[if_neg c24]at H;exact absurd H (by simp)
                · rw[if_neg c23]at H;exact absurd H (by simp)
              · rw[if_neg c22]at H;have c22b0:=decide_eq_false c22;(try simp only[hl4_1]at c22b0);(try simp only[hl4_2]at c22b0);(try simp only[hl5_2]at c22b0);clear c22;have H':=m0 H;clear H
                go_wp2
                (try simp only[← hl4_1, ←hl4_2, ←hl5_2])
                go_roundg k2
                case measure=>have:=HK1.out;have:=HK2.out;omega
                case rel=>exact⟨(x4_2),(x5_2),(wrap64 (x24_1+1)),rz,H',⟨by have:=HK1.out;have:=HK2.out;omega⟩,⟨by (try simp only[hl4_1]);(try simp only[hl4_2]);(try simp only[hl5_2]);(with_reducible repeat(first|apply Kd.R_alloc|apply Kd.R_drewN|apply Kd.R_drew));exact HO_4.out⟩,⟨by (try simp only[hl4_1]);(try simp only[hl4_2]);(try simp only[hl5_2]);(with_reducible repeat(first|apply Kd.R_alloc|apply Kd.R_drewN|apply Kd.R_drew));exact HO_5.out⟩,⟨by (try simp only[hl4_1]);(try simp only[hl4_2]);(try simp only[hl5_2]);(with_reducible repeat(first|refine blk_drewN ?_ _|refine blk_drew ?_|refine blk_alloc ?_ _));exact BK667.out⟩,⟨by (try simp only[hl4_1]);(try simp only[hl4_2]);(try simp only[hl5_2]);(with_reducible repeat(first|refine blk_drewN ?_ _|refine blk_drew ?_|refine blk_alloc ?_ _));exact BK668.out⟩,⟨bz⟩⟩
        · rw[if_neg c20]at H;have c20b0:=decide_eq_false c20;(try simp only[hl4_1]at c20b0);clear c20;replace H:=oa H;obtain⟨⟨t676,t677⟩,A36,H⟩:=H;(try dsimp only at H);replace H:=oa H;obtain⟨⟨t678,t679⟩,A37,H⟩:=H;(try dsimp only at H)
          by_cases c38:t677=true
          · subst c38;rw[if_pos rfl]at H;simp only[Option.some.injEq,Prod.mk.injEq]at H;obtain⟨rfl,rfl,rfl⟩:=H
            go_wp2_with (first|((with_reducible refine gc 89 rfl ?_);refine gl (some 63) Tryz.func89 #[.slice Ao19 x4_1.length co19] ?_;(with_reducible refine(L_product.calls k1 _ _ x4_1 t676 true _ ?side1 ?side2 A36.out).mono ?_);(case side1=>exact bc (Kd.R_reads' HO_4.out).2.2);(case side2=>exact(Kd.R_reads' HO_4.out).2.1);rintro e w' ⟨rfl,⟨nd,rfl⟩⟩;refine⟨_,rfl,?_⟩;(try(rw[drewN_self wr];generalize hq_:World.drewN wr _=wr;replace HO_4:=gr HO_4 hq_;replace HO_5:=gr HO_5 hq_;replace BK667:=gd BK667 hq_;replace BK668:=gd BK668 hq_;replace HB:=gs HB hq_;clear hq_));obtain⟨Ao39,co39,eo39⟩:=Kd.R_slice HO_5.out;subst eo39)|((with_reducible refine gc 89 rfl ?_);refine gl (some 68) Tryz.func89 #[.slice Ao39 x5_1.length co39] ?_;(with_reducible refine(L_product.calls k1 _ _ x5_1 t678 t679 _ ?side1 ?side2 A37.out).mono ?_);(case side1=>exact bc (Kd.R_reads' HO_5.out).2.2);(case side2=>exact(Kd.R_reads' HO_5.out).2.1);rintro e w' ⟨rfl,⟨nd,rfl⟩⟩;refine⟨_,rfl,?_⟩;(try(rw[drewN_self wr];generalize hq_:World.drewN wr _=wr;replace HO_4:=gr HO_4 hq_;replace HO_5:=gr HO_5 hq_;replace BK667:=gd BK667 hq_;replace BK668:=gd BK668 hq_;replace HB:=gs HB hq_;clear hq_));have hnb40:=NB668_667.out;have hnc40:=NB667_668.out;obtain⟨_,_,_,_⟩:=b2 BK668))
            refine bodyPost_ret (results_ct rfl _ _ gb668 24 #[.int .i64 t676,.int .i64 t678] (0,0) _ rfl (bq BK668.out) Tryz.underlying24 rfl (by kernel_rfl)) rfl ?_;exact ez
          · replace c38:=Bool.eq_false_iff.mpr c38;subst c38;rw[if_neg (show ¬ (false=true) by decide)]at H;simp only[Option.some.injEq,Prod.mk.injEq]at H;obtain⟨rfl,rfl,rfl⟩:=H
            go_wp2_with (first|((with_reducible refine gc 89 rfl ?_);refine gl (some 63) Tryz.func89 #[.slice Ao19 x4_1.length co19] ?_;(with_reducible refine(L_product.calls k1 _ _ x4_1 t676 false _ ?side1 ?side2 A36.out).mono ?_);(case side1=>exact bc (Kd.R_reads' HO_4.out).2.2);(case side2=>exact(Kd.R_reads' HO_4.out).2.1);rintro e w' ⟨rfl,⟨nd,rfl⟩⟩;refine⟨_,rfl,?_⟩;(try(rw[drewN_self wr];generalize hq_:World.drewN wr _=wr;replace HO_4:=gr HO_4 hq_;replace HO_5:=gr HO_5 hq_;replace BK667:=gd BK667 hq_;replace BK668:=gd BK668 hq_;replace HB:=gs HB hq_;clear hq_));obtain⟨Ao42,co42,eo42⟩:=Kd.R_slice HO_5.out;subst eo42)|((with_reducible refine gc 89 rfl ?_);refine gl (some 68) Tryz.func89 #[.slice Ao42 x5_1.length co42] ?_;(with_reducible refine(L_product.calls k1 _ _ x5_1 t678 t679 _ ?side1 ?side2 A37.out).mono ?_);(case side1=>exact bc (Kd.R_reads' HO_5.out).2.2);(case side2=>exact(Kd.R_reads' HO_5.out).2.1);rintro e w' ⟨rfl,⟨nd,rfl⟩⟩;refine⟨_,rfl,?_⟩;(try(rw[drewN_self wr];generalize hq_:World.drewN wr _=wr;replace HO_4:=gr HO_4 hq_;replace HO_5:=gr HO_5 hq_;replace BK667:=gd BK667 hq_;replace BK668:=gd BK668 hq_;replace HB:=gs HB hq_;clear hq_));have hnb43:=NB668_667.out;have hnc43:=NB667_668.out;obtain⟨_,_,_,_⟩:=b2 BK668))
            refine bodyPost_ret (results_ct rfl _ _ gb668 24 #[.int .i64 t676,.int .i64 t678] (0,0) _ rfl (bq BK668.out) Tryz.underlying24 rfl (by kernel_rfl)) rfl ?_;exact ez
end
section
def L_partErr.j0:Nat→Bool→Int→Int→Option (Int)
 |0,_,_,_=>none
 |k+1,x13,x445000,x445001=>if x13=true then(some 3)else((L_within.f x445000 0 x445001).bind fun t446=>(if t446=true then((L_unless.f (decide (x445001≤1000000000)) 2).bind fun t447=>(some t447))else((L_unless.f false 2).bind fun t448=>(some t448))))
def L_partErr.f (k:Nat) (a0_0:Int) (a0_1:Int):Option (Int):=if a0_1≤0 then(L_partErr.j0 k true a0_0 a0_1)else((L_divisor.f k a0_0 a0_1).bind fun t445=>(L_partErr.j0 k (t445 != 1) a0_0 a0_1))
theorem L_partErr.mono_l:∀ k,(∀ y0 y1 y2,LeO (L_partErr.j0 k y0 y1 y2) (L_partErr.j0 (k+1) y0 y1 y2))
 |0=>fun _ _ _ r h=>by simp[L_partErr.j0]at h
 | k+1=>by
  have ih0:=L_partErr.mono_l k
  ·intro y0 y1 y2;unfold L_partErr.j0
   repeat' with_reducible first
    |exact ih0 ..
    |exact L_divisor.mono ..
    |exact LeO.refl ..
    |exact LeO.none ..
    |refine LeO.ite ?_ ?_
    |refine LeO.bind ?_ (fun _=>?_)
theorem L_partErr.mono:∀ a0 a1 k,LeO (L_partErr.f k a0 a1) (L_partErr.f (k+1) a0 a1):=by
 intro a0 a1 k;have ih0:=L_partErr.mono_l k;unfold L_partErr.f
 repeat' with_reducible first
  |exact ih0 ..
  |exact L_divisor.mono ..
  |exact LeO.refl ..
  |exact LeO.none ..
  |refine LeO.ite ?_ ?_
  |refine LeO.bind ?_ (fun _=>?_)
theorem L_partErr.calls (k:Nat) (a0_0:Int) (a0_1:Int) (r:Int) (w:World) (H:L_partErr.f k a0_0 a0_1=some r):
  Calls Tryz.prog 56 #[.agg #[.int .i64 a0_0,.int .i64 a0_1]] w fun e w'=>e= .returned (.int .i64 r)∧Below w.heap.size w w':=by
 have hu24:=Tryz.underlying24;have HB:=m0 (Below.refl w.heap.size w);unfold L_partErr.f at H;have HC2:=m0 H;clear H;go_enter Tryz.func56,Tryz.ntmps56
 go_upto_region 1 with (first|((with_reducible refine ga 1 rfl ?_);refine be 1 24 #[.int .i64 a0_0,.int .i64 a0_1] ?_;intro gb444 hg w3 hbox hb;have BK444:=m0 hbox;have GE444:=gw w hg;replace HB:=sb HB hb;clear hb hbox hg))
 (try simp only[Act.put,List.setIfInBounds_toArray,List.set_cons_zero,List.set_cons_succ])
 go_cut [13] (fun v13 wc=>∃ (kq:Nat) (x13_1:Bool),v13= .bool x13_1∧Aside0 (L_partErr.j0 kq x13_1 a0_0 a0_1=some r)∧Aside0 (kq≤k)∧Aside0 (wc.heap[gb444]?=some (.cells #[.int .i64 a0_0,.int .i64 a0_1] 24 (0,0)))∧Aside0 (Below w.heap.size w wc))
 case first=>
  have H:=HC2.out;clear HC2
  by_cases c4:a0_1≤0
  ·rw [if_pos c4]at H;have c4b0:=decide_eq_true c4;clear c4
   (first|rw[c4b0]|(simp only[i64_w,i32_w];rw[c4b0])|skip)
   have H':=m0 H;clear H;obtain⟨hcz5_0,hcz5_1,hfz5_0,hfz5_1⟩:=b2 BK444
   go_wp2
   go_meet
   case rel=>exact⟨_,(true),rz,H',⟨by first|omega|exact Nat.le_refl _⟩,⟨bk BK444.out⟩,⟨bz⟩⟩
  ·rw [if_neg c4]at H;have c4b0:=decide_eq_false c4;clear c4
   (first|rw[c4b0]|(simp only[i64_w,i32_w];rw[c4b0])|skip)
   replace H:=oa H;obtain⟨t445,A6,H⟩:=H;(try dsimp only at H);have H':=m0 H;clear H;obtain⟨hcz7_0,hcz7_1,hfz7_0,hfz7_1⟩:=b2 BK444
   go_wp2_with (first|(go_at_call 84;(with_reducible refine(L_divisor.calls k a0_0 a0_1 t445 _ A6.out).mono ?_);rintro e w8 ⟨rfl,hb⟩;replace BK444:=bb BK444 hb;replace HB:=sb HB hb;(try clear hb)))
   go_meet
   case rel=>exact⟨_,((t445 != 1)),rz,H',⟨by first|omega|exact Nat.le_refl _⟩,⟨bk BK444.out⟩,⟨bz⟩⟩
 case rest=>
  clear HC2
  try clear hcz5_0
  try clear hcz5_1
  try clear hcz7_0
  try clear hcz7_1
  try clear hfz5_0
  try clear hfz5_1
  try clear hfz7_0
  try clear hfz7_1
  obtain⟨kq,x13_1,rfl,HA,HJ1,BK444,HB⟩:=hcut
  cases kq with
  |zero=>exact absurd HA.out (by simp[L_partErr.j0])
  | succ kj1=>
   have H:=HA.out;clear HA;simp only[L_partErr.j0]at H
   by_cases c9:x13_1=true
   ·subst c9;rw[if_pos rfl]at H;obtain rfl:=Option.some.inj H
    go_wp2
    go_ret
    exact ez
   ·replace c9:=Bool.eq_false_iff.mpr c9;subst c9;rw[if_neg (show ¬ (false=true) by decide)]at H;replace H:=oa H;obtain⟨t446,A10,H⟩:=H;(try dsimp only at H)
    by_cases c11:t446=true
    ·subst c11;rw[if_pos rfl]at H;replace H:=oa H;obtain⟨t447,A12,H⟩:=H;(try dsimp only at H);obtain rfl:=Option.some.inj H;obtain⟨_,_,_,_⟩:=b2 BK444
     go_wp2_with (first|((with_reducible refine gc 46 rfl ?_);refine gl (some 18) Tryz.func46 #[.int .i64 a0_0,.int .i64 0,.int .i64 a0_1] ?_;(with_reducible refine(L_within.calls a0_0 0 a0_1 true _ A10.out).mono ?_);rintro e w' ⟨rfl,⟨nd,rfl⟩⟩;refine⟨_,rfl,?_⟩)|((with_reducible refine gc 49 rfl ?_);refine gl (some 24) Tryz.func49 #[.bool (decide (a0_1≤1000000000)),.int .i64 2] ?_;(with_reducible refine(L_unless.calls (decide (a0_1≤1000000000)) 2 t447 _ A12.out).mono ?_);rintro e w' ⟨rfl,⟨nd,rfl⟩⟩;refine⟨_,rfl,?_⟩))
     go_ret
     exact ez
    ·replace c11:=Bool.eq_false_iff.mpr c11;subst c11;rw[if_neg (show ¬ (false=true) by decide)]at H;replace H:=oa H;obtain⟨t448,A14,H⟩:=H;(try dsimp only at H);obtain rfl:=Option.some.inj H;obtain⟨_,_,_,_⟩:=b2 BK444
     go_wp2_with (first|((with_reducible refine gc 46 rfl ?_);refine gl (some 18) Tryz.func46 #[.int .i64 a0_0,.int .i64 0,.int .i64 a0_1] ?_;(with_reducible refine(L_within.calls a0_0 0 a0_1 false _ A10.out).mono ?_);rintro e w' ⟨rfl,⟨nd,rfl⟩⟩;refine⟨_,rfl,?_⟩)|((with_reducible refine gc 49 rfl ?_);refine gl (some 24) Tryz.func49 #[.bool false,.int .i64 2] ?_;(with_reducible refine(L_unless.calls false 2 t448 _ A14.out).mono ?_);rintro e w' ⟨rfl,⟨nd,rfl⟩⟩;refine⟨_,rfl,?_⟩))
     go_ret
     exact ez
end
section
def api_Frac_partErr.l0:Nat→List (S24)→Int→Int→Option (Int×Int)
 |0,_,_,_=>none
 |k+1,x9,x10,x11=>if x11<x10 then(if 0≤x11 then(if x11<(x9.length:Int)then((L_partErr.f k ((rd_T24 x9 x11).f0) ((rd_T24 x9 x11).f1)).bind fun t689=>(if t689=0 then(api_Frac_partErr.l0 k x9 x10 (wrap64 (x11+1)))else(some (x11,t689))))else(none))else(none))else(some (0,0))
def api_Frac_partErr.f (k:Nat) (l0:List (S24))  :Option (Int×Int):=api_Frac_partErr.l0 k l0 (l0.length:Int) 0
theorem api_Frac_partErr.mono_l:∀ k,(∀ y0 y1 y2,LeO (api_Frac_partErr.l0 k y0 y1 y2) (api_Frac_partErr.l0 (k+1) y0 y1 y2))
 |0=>fun _ _ _ r h=>by simp[api_Frac_partErr.l0]at h
 | k+1=>by
  have ih0:=api_Frac_partErr.mono_l k
  ·intro y0 y1 y2;unfold api_Frac_partErr.l0
   repeat' with_reducible first
    |exact ih0 ..
    |exact L_partErr.mono ..
    |exact LeO.refl ..
    |exact LeO.none ..
    |refine LeO.ite ?_ ?_
    |refine LeO.bind ?_ (fun _=>?_)
theorem api_Frac_partErr.mono:∀ a0 k,LeO (api_Frac_partErr.f k a0) (api_Frac_partErr.f (k+1) a0):=by
 intro a0 k;have ih0:=api_Frac_partErr.mono_l k;unfold api_Frac_partErr.f
 repeat' with_reducible first
  |exact ih0 ..
  |exact L_partErr.mono ..
  |exact LeO.refl ..
  |exact LeO.none ..
  |refine LeO.ite ?_ ?_
  |refine LeO.bind ?_ (fun _=>?_)
theorem api_Frac_partErr.calls (k:Nat) (A0:Option Addr) (c0:Nat) (l0:List (S24))  (r1:Int) (r2:Int) (w:World) (hr0:Kd.C k24 w A0 l0.length l0) (hc0:l0.length≤c0) (H:api_Frac_partErr.f k l0=some (r1,r2)):
  Calls Tryz.prog 61 #[.slice A0 l0.length c0,.func (.func 56) #[] #[]] w fun e w'=>e= .returned (.tuple #[.int .i64 r1,.int .i64 r2])∧Below w.heap.size w w':=by
 have hu24:=Tryz.underlying24;have HR0:=m0 hr0;have HC0:=m0 hc0;clear hr0 hc0;have HB:=m0 (Below.refl w.heap.size w);unfold api_Frac_partErr.f at H;have H':=m0 H;clear H;go_enter Tryz.func61,Tryz.ntmps61
 go_wp2
 go_loopg [11] k (fun kq v11 w'=>∃ (x11_1:Int),v11= .int .i64 x11_1∧Aside0 (api_Frac_partErr.l0 kq l0 (l0.length:Int) x11_1=some (r1,r2))∧Aside0 (kq≤k)∧Aside0 (Below w.heap.size w w'))
 case atStart=>exact⟨(0),rz,H',⟨Nat.le_refl _⟩,⟨bz⟩⟩
 case round=>
  clear H';obtain⟨x11_1,rfl,HA,HK1,HB⟩:=hrel
  cases gk with
  |zero=>exact absurd HA.out (by simp[api_Frac_partErr.l0])
  | succ k1=>
   have H:=HA.out;clear HA;simp only[api_Frac_partErr.l0]at H
   by_cases c3:x11_1<(l0.length:Int)
   ·rw [if_pos c3]at H;have c3b0:=decide_eq_true c3;clear c3
    by_cases c4:0≤x11_1
    ·rw [if_pos c4]at H;have c4b0:=decide_eq_true c4;clear c4
     by_cases c5:x11_1<(l0.length:Int)
     ·rw [if_pos c5]at H;have c5b0:=decide_eq_true c5;clear c5;replace H:=oa H;obtain⟨t689,A6,H⟩:=H;(try dsimp only at H)
      by_cases c7:t689=0
      ·rw [if_pos c7]at H;have c7b0:=beq_iff_eq.mpr c7;have c7b1:=bne_eq_false_iff_eq.mpr c7;clear c7;have H':=m0 H;clear H;have p687:0≤(x11_1:Int):=od;have q687:x11_1<(l0.length:Int):=od;obtain⟨ad687,e687,hx687_0,hx687_1⟩:=at_T24 HR0.out x11_1 p687 q687
       cases e687
       replace hx687_0:=hc HB hx687_0;replace hx687_1:=hc HB hx687_1;replace p687:=eq_true p687;replace q687:=eq_true q687
       go_wp2_with (first|((with_reducible refine ga 7 rfl ?_);refine be 7 24 #[.int .i64 0,.int .i64 0] ?_;intro gb688 hg w8 hbox hb;have BK688:=m0 hbox;have GE688:=gw w hg;replace HB:=sb HB hb;clear hb hbox hg;obtain⟨_,_,_,_⟩:=b2 BK688)|(go_at_call 56;(with_reducible refine(L_partErr.calls k1 ((rd_T24 l0 x11_1).f0) ((rd_T24 l0 x11_1).f1) t689 _ A6.out).mono ?_);rintro e w10 ⟨rfl,hb⟩;replace BK688:=m0 (blk_below (g:=gb688) (o:= .cells #[.int .i64 ((rd_T24 l0 x11_1).f0),.int .i64 ((rd_T24 l0 x11_1).f1)] 24 (0,0)) (bq BK688.out) hb);replace HB:=sb HB hb;(try clear hb)))
       go_roundg k1
       case measure=>have:=HK1.out;omega
       case rel=>exact⟨(wrap64 (x11_1+1)),rz,H',⟨by have:=HK1.out;omega⟩,⟨bz⟩⟩
      ·rw [if_neg c7]at H;have c7b0:=beq_eq_false_iff_ne.mpr c7;have c7b1:=bne_iff_ne.mpr c7;simp only[Option.some.injEq,Prod.mk.injEq]at H;obtain⟨rfl,rfl⟩:=H;have p687:0≤(x11_1:Int):=od;have q687:x11_1<(l0.length:Int):=od;obtain⟨ad687,e687,hx687_0,hx687_1⟩:=at_T24 HR0.out x11_1 p687 q687
       cases e687
       replace hx687_0:=hc HB hx687_0;replace hx687_1:=hc HB hx687_1;replace p687:=eq_true p687;replace q687:=eq_true q687
       go_wp2_with (first|((with_reducible refine ga 7 rfl ?_);refine be 7 24 #[.int .i64 0,.int .i64 0] ?_;intro gb688 hg w11 hbox hb;have BK688:=m0 hbox;have GE688:=gw w hg;replace HB:=sb HB hb;clear hb hbox hg;obtain⟨_,_,_,_⟩:=b2 BK688)|(go_at_call 56;(with_reducible refine(L_partErr.calls k1 ((rd_T24 l0 x11_1).f0) ((rd_T24 l0 x11_1).f1) t689 _ A6.out).mono ?_);rintro e w13 ⟨rfl,hb⟩;replace BK688:=m0 (blk_below (g:=gb688) (o:= .cells #[.int .i64 ((rd_T24 l0 x11_1).f0),.int .i64 ((rd_T24 l0 x11_1).f1)] 24 (0,0)) (bq BK688.out) hb);replace HB:=sb HB hb;(try clear hb)))
       go_ret2
       exact ez
     ·rw [if_neg c5]at H;exact absurd H (by simp)
    ·rw [if_neg c4]at H;exact absurd H (by simp)
   ·rw [if_neg c3]at H;have c3b0:=decide_eq_false c3;clear c3;simp only[Option.some.injEq,Prod.mk.injEq]at H;obtain⟨rfl,rfl⟩:=H
    go_wp2
    go_ret2
    exact ez
end
end Go.Proofs.YteiafijbgjgiaaaGreat.A
