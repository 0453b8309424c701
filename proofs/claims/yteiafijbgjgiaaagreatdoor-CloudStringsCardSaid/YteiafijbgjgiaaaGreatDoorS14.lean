/- Walks of the program's functions (printed, made shorter), each with what it computes. -/
import Derived.Test.YteiafijbgjgiaaaGreatDoorS13
import Derived.Shelf.Slices.CompactI
namespace Go.Proofs.YteiafijbgjgiaaaGreatDoor.A
set_option maxHeartbeats 8000000
set_option maxRecDepth 100000
open Go.RowKit Go.Proofs.YteiafijbgjgiaaaGreatDoorW.PrintWords Go.Proofs.YteiafijbgjgiaaaGreatDoorW.PrintLast Go.Proofs.YteiafijbgjgiaaaGreatDoorW.PrintMore
attribute [local go_sem] max2_int min2_int max_two min_two max_three min_three max_four min_four
set_option linter.unusedVariables false
set_option linter.unusedSimpArgs false
section
def L_openShots_1.f (k:Nat) (a0_0:Int) (a0_1:Int) (a0_2:Int):Option (Int):=(L_isTime.f a0_0).bind fun t266=>(if t266=true then((L_isTime.f a0_1).bind fun t267=>(if t267=true then((L_within.f a0_2 0 10000).bind fun t268=>((L_unless.f t268 2).bind fun t269=>((L_unless.f (decide (a0_0<a0_1)) 9).bind fun t270=>((L_first.f k (([t269,t270]:List Int))).bind fun t274=>(some t274)))))else((L_unless.f false 2).bind fun t275=>((L_unless.f (decide (a0_0<a0_1)) 9).bind fun t276=>((L_first.f k (([t275,t276]:List Int))).bind fun t280=>(some t280))))))else((L_unless.f false 2).bind fun t281=>((L_unless.f (decide (a0_0<a0_1)) 9).bind fun t282=>((L_first.f k (([t281,t282]:List Int))).bind fun t286=>(some t286)))))
theorem L_openShots_1.mono:∀ a0 a1 a2 k,LeO (L_openShots_1.f k a0 a1 a2) (L_openShots_1.f (k+1) a0 a1 a2):=by
 intro a0 a1 a2 k;unfold L_openShots_1.f
 have m1:=@L_first.mono;exact lz
def L_openShots_1.T2:Bool×List (List Nat×List Nat):=(true,[([],[]),([0],[0]),([],[]),([2],[2]),([],[]),([4],[4]),([3,5],[3,5]),([6,1],[6]),([1,7],[1,7]),([8,7],[8]),([9,9,0,1,2,3,4,5,6,7,8,9],[9])])
def L_openShots_1.B2:List Nat:=[0,1,0,4,0,16,60,127,255,511,1023]
theorem L_openShots_1.tab2:rtab .any (opsOf Tryz.f79 2)=L_openShots_1.T2:=by kernel_rfl
theorem L_openShots_1.bits2:waitsOk L_openShots_1.T2.2 L_openShots_1.B2=true:=by kernel_rfl
theorem L_openShots_1.m1 {P:Prop} (h:P:=by
 rintro e w' ⟨rfl,⟨nd,rfl⟩⟩;refine⟨_,rfl,?_⟩;refine hK.out _ _ cz (fun hH=>?_);clear hK K;refine nz 18 ?_;refine oneZ 7 (some 24) (bs 11 255) (o1 HT_) fun K hK=>?_;refine gz Tryz.func45 #[.bool (decide (a0_0<a0_1)),.int .i64 9] ?_
 with_reducible refine(L_unless.calls (decide (a0_0<a0_1)) 9 t270 _ A8.out).mono ?_
 rintro e w' ⟨rfl,⟨nd,rfl⟩⟩;refine⟨_,rfl,?_⟩;refine hK.out _ _ cz (fun hH=>?_);clear hK K;refine nz 24 ?_;refine oneZ 8 (some 25) (bs 11 511) (o1 HT_) fun K hK=>?_;refine Kd.R_lit_step (Kd.int .i64) _ 30 ?hg (N:=25) ?hd (xs:=([t269,t270]:List Int)) (inner:=[.int .i64 t269,.int .i64 t270]) (ok:=fun _=>True) (okp:=fun _=>True) ?hr ?hp (fun _ hk=>hk) trivial (Below.refl _ _) (Nat.le_refl _) (by simp) ?_;(case hd=>rfl);(case hg=>rfl);(case hr=>first|(go_simp;done)|(go_simp;rfl));(case hp=>exact(Reps.one (ki t269) (Reps.one (ki t270) (Reps.none _ _))))
 intro v272 w13 ho14 hb hg_ hnew_;clear hg_ hnew_
 (first|rw[← Ny271.out]at ho14|(simp only[Int.reduceToNat]at ho14;rw[← Ny271.out]at ho14))
 have HO273:=m0 (Kd.R_lower ho14 (below_size bz));replace BK265:=bb BK265 hb;replace HB:=sb HB hb;clear hb ho14;obtain⟨Ao15,co15,eo15⟩:=Kd.R_slice HO273.out;subst eo15;refine hK.out _ _ cz (fun hH=>?_);clear hK K;refine nz 25 ?_;refine oneZ 9 (some 26) (bs 11 1023) (o1 HT_) fun K hK=>?_;refine gz Tryz.func40 #[.slice Ao15 y271.length co15] ?_
 with_reducible refine(L_first.calls k _ _ y271 t274 _ ?side1 ?side2 A9.out).mono ?_
 (case side1=>exact bc (Kd.R_reads' HO273.out).2.2)
 (case side2=>exact(Kd.R_reads' HO273.out).2.1)
 rintro e w' ⟨rfl,⟨nd,rfl⟩⟩;refine⟨_,rfl,?_⟩;refine hK.out _ _ cz (fun hH=>?_);clear hK K;refine nz 26 ?_;refine pZ 10 (some 2) (bs 11 2047) HT_ ?_;refine done_ (done_of HT_.out (by kernel_rfl)) ?_
 try go_wp2
 go_ret
 exact ez):P:=h
theorem L_openShots_1.m2 {P:Prop} (h:P:=by
 (try(rw[drewN_self w19];generalize hq_:World.drewN w19 _=w19;replace BK265:=gd BK265 hq_;replace HB:=gs HB hq_;clear hq_))
 replace BK265:=bd BK265;replace HB:=sd HB;refine start_ (n:=11) (S:=fun w'=>w'.cell? ⟨gb265,0,none⟩=some (.int .i64 a0_0)∧w'.cell? ⟨gb265,1,none⟩=some (.int .i64 a0_1)∧w'.cell? ⟨gb265,2,none⟩=some (.int .i64 a0_2)) (ds:=[]) _ (by kernel_rfl) rfl rfl cz (fun hH=>?_);refine with_tabW L_openShots_1.tab2 L_openShots_1.bits2 (fun HT_ HW_=>?_);generalize w19.drew=w21 at BK265 HB hH ⊢;refine pZ 0 (some 17) (bs 11 1) HT_ ?_;refine pZ 2 (some 19) (bs 11 5) HT_ ?_;refine pZ 4 (some 21) (bs 11 21) HT_ ?_;refine takeZ 3 (some 20) (bs 11 29) (tw HT_ HW_) hH ?_;refine takeZ 5 (some 22) (bs 11 61) (tw HT_ HW_) hH ?_;refine pZ 6 (some 23) (bs 11 125) HT_ ?_;refine oneZ 1 (some 18) (bs 11 127) (o1 HT_) fun K hK=>?_;refine gz Tryz.func45 #[.bool false,.int .i64 2] ?_
 with_reducible refine(L_unless.calls false 2 t269 _ A16.out).mono ?_
 exact L_openShots_1.m1):P:=h
theorem L_openShots_1.calls (k:Nat) (a0_0:Int) (a0_1:Int) (a0_2:Int) (r:Int) (w:World) (H:L_openShots_1.f k a0_0 a0_1 a0_2=some r):
  Calls Tryz.prog 79 #[.agg #[.int .i64 a0_0,.int .i64 a0_1,.int .i64 a0_2]] w fun e w'=>e= .returned (.int .i64 r)∧Below w.heap.size w w':=by
 have hu101:=Tryz.underlying101;have HB:=m0 (Below.refl w.heap.size w);unfold L_openShots_1.f at H;replace H:=oa H;obtain⟨t266,A2,H⟩:=H;(try dsimp only at H)
 by_cases c3:t266=true
 ·subst c3;rw[if_pos rfl]at H;replace H:=oa H;obtain⟨t267,A4,H⟩:=H;(try dsimp only at H)
  by_cases c5:t267=true
  ·subst c5;rw[if_pos rfl]at H;replace H:=oa H;obtain⟨t268,A6,H⟩:=H;(try dsimp only at H);replace H:=oa H;obtain⟨t269,A7,H⟩:=H;(try dsimp only at H);replace H:=oa H;obtain⟨t270,A8,H⟩:=H;(try dsimp only at H);obtain⟨y271,hy271⟩:∃ y_:List Int,y_=(([t269,t270]:List Int)):=⟨_,rfl⟩;replace H:((L_first.f k y271).bind fun t274=>(some t274))=some r:=hq hy271 H
   have Ny271:=m0 hy271;clear hy271;replace H:=oa H;obtain⟨t274,A9,H⟩:=H;(try dsimp only at H);obtain rfl:=Option.some.inj H;go_enter Tryz.func79,Tryz.ntmps79
   try go_wp2_with (first|((with_reducible refine ga 1 rfl ?_);refine be 1 101 #[.int .i64 a0_0,.int .i64 a0_1,.int .i64 a0_2] ?_;intro gb265 hg w10 hbox hb;have BK265:=m0 hbox;have GE265:=gw w hg;replace HB:=sb HB hb;clear hb hbox hg;obtain⟨_,_,_,_,_,_⟩:=b3 BK265)|((with_reducible refine gc 80 rfl ?_);refine gl (some 6) Tryz.func80 #[.int .i64 a0_0] ?_;(with_reducible refine(L_isTime.calls a0_0 true _ A2.out).mono ?_);rintro e w' ⟨rfl,⟨nd,rfl⟩⟩;refine⟨_,rfl,?_⟩)|(go_at_call 80;(with_reducible refine(L_isTime.calls a0_1 true _ A4.out).mono ?_);rintro e w' ⟨rfl,⟨nd,rfl⟩⟩)|(go_at_call 46;(with_reducible refine(L_within.calls a0_2 0 10000 t268 _ A6.out).mono ?_);rintro e w' ⟨rfl,⟨nd,rfl⟩⟩))
   (try(rw[drewN_self w10];generalize hq_:World.drewN w10 _=w10;replace BK265:=gd BK265 hq_;replace HB:=gs HB hq_;clear hq_))
   replace BK265:=bd BK265;replace HB:=sd HB;refine start_ (n:=11) (S:=fun w'=>w'.cell? ⟨gb265,0,none⟩=some (.int .i64 a0_0)∧w'.cell? ⟨gb265,1,none⟩=some (.int .i64 a0_1)∧w'.cell? ⟨gb265,2,none⟩=some (.int .i64 a0_2)) (ds:=[]) _ (by kernel_rfl) rfl rfl cz (fun hH=>?_);refine with_tabW L_openShots_1.tab2 L_openShots_1.bits2 (fun HT_ HW_=>?_);generalize w10.drew=w12 at BK265 HB hH ⊢;refine pZ 0 (some 17) (bs 11 1) HT_ ?_;refine pZ 2 (some 19) (bs 11 5) HT_ ?_;refine pZ 4 (some 21) (bs 11 21) HT_ ?_;refine takeZ 3 (some 20) (bs 11 29) (tw HT_ HW_) hH ?_;refine takeZ 5 (some 22) (bs 11 61) (tw HT_ HW_) hH ?_;refine pZ 6 (some 23) (bs 11 125) HT_ ?_;refine oneZ 1 (some 18) (bs 11 127) (o1 HT_) fun K hK=>?_;refine gz Tryz.func45 #[.bool t268,.int .i64 2] ?_
   with_reducible refine(L_unless.calls t268 2 t269 _ A7.out).mono ?_
   exact L_openShots_1.m1
  ·replace c5:=Bool.eq_false_iff.mpr c5;subst c5;rw[if_neg (show ¬ (false=true) by decide)]at H;replace H:=oa H;obtain⟨t269,A16,H⟩:=H;(try dsimp only at H);replace H:=oa H;obtain⟨t270,A8,H⟩:=H;(try dsimp only at H);obtain⟨y271,hy277⟩:∃ y_:List Int,y_=(([t269,t270]:List Int)):=⟨_,rfl⟩;replace H:((L_first.f k y271).bind fun t274=>(some t274))=some r:=hq hy277 H
   have Ny271:=m0 hy277;clear hy277;replace H:=oa H;obtain⟨t274,A9,H⟩:=H;(try dsimp only at H);obtain rfl:=Option.some.inj H;go_enter Tryz.func79,Tryz.ntmps79
   try go_wp2_with (first|((with_reducible refine ga 1 rfl ?_);refine be 1 101 #[.int .i64 a0_0,.int .i64 a0_1,.int .i64 a0_2] ?_;intro gb265 hg w19 hbox hb;have BK265:=m0 hbox;have GE265:=gw w hg;replace HB:=sb HB hb;clear hb hbox hg;obtain⟨_,_,_,_,_,_⟩:=b3 BK265)|((with_reducible refine gc 80 rfl ?_);refine gl (some 6) Tryz.func80 #[.int .i64 a0_0] ?_;(with_reducible refine(L_isTime.calls a0_0 true _ A2.out).mono ?_);rintro e w' ⟨rfl,⟨nd,rfl⟩⟩;refine⟨_,rfl,?_⟩)|(go_at_call 80;(with_reducible refine(L_isTime.calls a0_1 false _ A4.out).mono ?_);rintro e w' ⟨rfl,⟨nd,rfl⟩⟩))
   exact L_openShots_1.m2
 ·replace c3:=Bool.eq_false_iff.mpr c3;subst c3;rw[if_neg (show ¬ (false=true) by decide)]at H;replace H:=oa H;obtain⟨t269,A16,H⟩:=H;(try dsimp only at H);replace H:=oa H;obtain⟨t270,A8,H⟩:=H;(try dsimp only at H);obtain⟨y271,hy283⟩:∃ y_:List Int,y_=(([t269,t270]:List Int)):=⟨_,rfl⟩;replace H:((L_first.f k y271).bind fun t274=>(some t274))=some r:=hq hy283 H
  have Ny271:=m0 hy283;clear hy283;replace H:=oa H;obtain⟨t274,A9,H⟩:=H;(try dsimp only at H);obtain rfl:=Option.some.inj H;go_enter Tryz.func79,Tryz.ntmps79
  try go_wp2_with (first|((with_reducible refine ga 1 rfl ?_);refine be 1 101 #[.int .i64 a0_0,.int .i64 a0_1,.int .i64 a0_2] ?_;intro gb265 hg w19 hbox hb;have BK265:=m0 hbox;have GE265:=gw w hg;replace HB:=sb HB hb;clear hb hbox hg;obtain⟨_,_,_,_,_,_⟩:=b3 BK265)|((with_reducible refine gc 80 rfl ?_);refine gl (some 6) Tryz.func80 #[.int .i64 a0_0] ?_;(with_reducible refine(L_isTime.calls a0_0 false _ A2.out).mono ?_);rintro e w' ⟨rfl,⟨nd,rfl⟩⟩;refine⟨_,rfl,?_⟩))
  exact L_openShots_1.m2
end
section
def api_CloudShot_openShots_1.l0:Nat→List (S101)→Int→Int→Option (Int×Int)
 |0,_,_,_=>none
 |k+1,x9,x10,x11=>if x11<x10 then(if 0≤x11 then(if x11<(x9.length:Int)then((L_openShots_1.f k ((rd_T101 x9 x11).f0) ((rd_T101 x9 x11).f1) ((rd_T101 x9 x11).f2)).bind fun t289=>(if t289=0 then(api_CloudShot_openShots_1.l0 k x9 x10 (wrap64 (x11+1)))else(some (x11,t289))))else(none))else(none))else(some (0,0))
def api_CloudShot_openShots_1.f (k:Nat) (l0:List (S101))  :Option (Int×Int):=api_CloudShot_openShots_1.l0 k l0 (l0.length:Int) 0
theorem api_CloudShot_openShots_1.mono_l:∀ k,(∀ y0 y1 y2,LeO (api_CloudShot_openShots_1.l0 k y0 y1 y2) (api_CloudShot_openShots_1.l0 (k+1) y0 y1 y2))
 |0=>fun _ _ _ r h=>by simp[api_CloudShot_openShots_1.l0]at h
 | k+1=>by
  have ih0:=api_CloudShot_openShots_1.mono_l k
  ·intro y0 y1 y2;unfold api_CloudShot_openShots_1.l0
   have m1:=@L_openShots_1.mono;exact lz
theorem api_CloudShot_openShots_1.mono:∀ a0 k,LeO (api_CloudShot_openShots_1.f k a0) (api_CloudShot_openShots_1.f (k+1) a0):=by
 intro a0 k;have ih0:=api_CloudShot_openShots_1.mono_l k;unfold api_CloudShot_openShots_1.f
 have m1:=@L_openShots_1.mono;exact lz
theorem api_CloudShot_openShots_1.calls (k:Nat) (A0:Option Addr) (c0:Nat) (l0:List (S101))  (r1:Int) (r2:Int) (w:World) (hr0:Kd.C k101 w A0 l0.length l0) (hc0:l0.length≤c0) (H:api_CloudShot_openShots_1.f k l0=some (r1,r2)):
  Calls Tryz.prog 78 #[.slice A0 l0.length c0,.func (.func 79) #[] #[]] w fun e w'=>e= .returned (.tuple #[.int .i64 r1,.int .i64 r2])∧Below w.heap.size w w':=by
 have hu101:=Tryz.underlying101;have HR0:=m0 hr0;have HC0:=m0 hc0;clear hr0 hc0;have HB:=m0 (Below.refl w.heap.size w);unfold api_CloudShot_openShots_1.f at H;have H':=m0 H;clear H;go_enter Tryz.func78,Tryz.ntmps78
 go_wp2
 go_loopg [11] k (fun kq v11 w'=>∃ (x11_1:Int),v11= .int .i64 x11_1∧Aside0 (api_CloudShot_openShots_1.l0 kq l0 (l0.length:Int) x11_1=some (r1,r2))∧Aside0 (kq≤k)∧Aside0 (Below w.heap.size w w'))
 case atStart=>exact⟨(0),rz,H',⟨Nat.le_refl _⟩,⟨bz⟩⟩
 case round=>
  clear H';obtain⟨x11_1,rfl,HA,HK1,HB⟩:=hrel
  cases gk with
  |zero=>exact absurd HA.out (by simp[api_CloudShot_openShots_1.l0])
  | succ k1=>
   have H:=HA.out;clear HA;simp only[api_CloudShot_openShots_1.l0]at H
   by_cases c3:x11_1<(l0.length:Int)
   ·rw [if_pos c3]at H;have c3b0:=decide_eq_true c3;clear c3
    by_cases c4:0≤x11_1
    ·rw [if_pos c4]at H;have c4b0:=decide_eq_true c4;clear c4
     by_cases c5:x11_1<(l0.length:Int)
     ·rw [if_pos c5]at H;have c5b0:=decide_eq_true c5;clear c5;replace H:=oa H;obtain⟨t289,A6,H⟩:=H;(try dsimp only at H);have p287:0≤(x11_1:Int):=od;have q287:x11_1<(l0.length:Int):=od;obtain⟨ad287,e287,hx287_0,hx287_1,hx287_2⟩:=at_T101 HR0.out x11_1 p287 q287
      cases e287
      replace hx287_0:=hc HB hx287_0;replace hx287_1:=hc HB hx287_1;replace hx287_2:=hc HB hx287_2;replace p287:=eq_true p287;replace q287:=eq_true q287
      by_cases c7:t289=0
      ·rw [if_pos c7]at H;have c7b0:=beq_iff_eq.mpr c7;have c7b1:=bne_eq_false_iff_eq.mpr c7;clear c7;have H':=m0 H;clear H
       go_wp2_with (first|((with_reducible refine ga 7 rfl ?_);refine be 7 101 #[.int .i64 0,.int .i64 0,.int .i64 0] ?_;intro gb288 hg w8 hbox hb;have BK288:=m0 hbox;have GE288:=gw w hg;replace HB:=sb HB hb;clear hb hbox hg;obtain⟨_,_,_,_,_,_⟩:=b3 BK288)|(go_at_call 79;(with_reducible refine(L_openShots_1.calls k1 ((rd_T101 l0 x11_1).f0) ((rd_T101 l0 x11_1).f1) ((rd_T101 l0 x11_1).f2) t289 _ A6.out).mono ?_);rintro e w10 ⟨rfl,hb⟩;replace BK288:=m0 (blk_below (g:=gb288) (o:= .cells #[.int .i64 ((rd_T101 l0 x11_1).f0),.int .i64 ((rd_T101 l0 x11_1).f1),.int .i64 ((rd_T101 l0 x11_1).f2)] 101 (0,0)) (bq BK288.out) hb);replace HB:=sb HB hb;(try clear hb)))
       go_roundg k1
       case measure=>have:=HK1.out;omega
       case rel=>exact⟨(wrap64 (x11_1+1)),rz,H',⟨by have:=HK1.out;omega⟩,⟨bz⟩⟩
      ·rw [if_neg c7]at H;have c7b0:=beq_eq_false_iff_ne.mpr c7;have c7b1:=bne_iff_ne.mpr c7;simp only[Option.some.injEq,Prod.mk.injEq]at H;obtain⟨rfl,rfl⟩:=H
       go_wp2_with (first|((with_reducible refine ga 7 rfl ?_);refine be 7 101 #[.int .i64 0,.int .i64 0,.int .i64 0] ?_;intro gb288 hg w11 hbox hb;have BK288:=m0 hbox;have GE288:=gw w hg;replace HB:=sb HB hb;clear hb hbox hg;obtain⟨_,_,_,_,_,_⟩:=b3 BK288)|(go_at_call 79;(with_reducible refine(L_openShots_1.calls k1 ((rd_T101 l0 x11_1).f0) ((rd_T101 l0 x11_1).f1) ((rd_T101 l0 x11_1).f2) t289 _ A6.out).mono ?_);rintro e w13 ⟨rfl,hb⟩;replace BK288:=m0 (blk_below (g:=gb288) (o:= .cells #[.int .i64 ((rd_T101 l0 x11_1).f0),.int .i64 ((rd_T101 l0 x11_1).f1),.int .i64 ((rd_T101 l0 x11_1).f2)] 101 (0,0)) (bq BK288.out) hb);replace HB:=sb HB hb;(try clear hb)))
       go_ret2
       exact ez
     ·rw [if_neg c5]at H;exact absurd H (by simp)
    ·rw [if_neg c4]at H;exact absurd H (by simp)
   ·rw [if_neg c3]at H;have c3b0:=decide_eq_false c3;clear c3;simp only[Option.some.injEq,Prod.mk.injEq]at H;obtain⟨rfl,rfl⟩:=H
    go_wp2
    go_ret2
    exact ez
end
section
def L_openShots.f (k:Nat) (l0:List (S101)) (a1:Int):Option ((List (S101))×Int):=if(l0.length:Int)>20 then(some (([]:List (S101)),8))else((api_CloudShot_openShots_1.f k l0).bind fun bt290=>((L_within.f a1 1 1000000).bind fun t292=>((L_unless.f t292 2).bind fun t293=>((L_first.f k (([bt290.2,t293]:List Int))).bind fun t297=>(some (l0,t297))))))
theorem L_openShots.mono:∀ a0 a1 k,LeO (L_openShots.f k a0 a1) (L_openShots.f (k+1) a0 a1):=by
 intro a0 a1 k;unfold L_openShots.f
 have m1:=@api_CloudShot_openShots_1.mono;have m2:=@L_first.mono;exact lz
theorem L_openShots.calls (k:Nat) (P0_:Nat→Prop) (A0:Option Addr) (c0:Nat) (l0:List (S101)) (a1:Int) (r1:List (S101)) (r2:Int) (w:World) (hs0:Kd.V k101 101 w w.heap.size (fun k_=>P0_ k_) (.slice A0 l0.length c0) l0) (H:L_openShots.f k l0 a1=some (r1,r2)):
  Calls Tryz.prog 51 #[.slice A0 l0.length c0,.int .i64 a1] w fun e w'=>∃ v0_:Value,e= .returned (.tuple #[v0_,.int .i64 r2])∧Kd.V k101 101 w' w.heap.size (fun k_=>(P0_ k_∨w.heap.size≤k_)) v0_ r1∧Below w.heap.size w w':=by
 have HO0:=m0 (show Kd.V k101 101 w w.heap.size (fun k_=>(P0_ k_∨w.heap.size≤k_)) (.slice A0 l0.length c0) l0 from Kd.V_mono hs0 (fun k_ hk=> .inl hk));have HB:=m0 (Below.refl w.heap.size w);unfold L_openShots.f at H
 by_cases c3:(l0.length:Int)>20
 ·rw [if_pos c3]at H;have c3b0:=decide_eq_true c3;have c3b1:decide (20<l0.length)=true:=decide_eq_true (by omega);clear c3;simp only[Option.some.injEq,Prod.mk.injEq]at H;obtain⟨rfl,rfl⟩:=H;go_enter Tryz.func51,Tryz.ntmps51
  go_wp2
  go_ret2
  exact⟨_,e4,Kd.V_nil _ _ _ _ _,bz⟩
 ·rw [if_neg c3]at H;have c3b0:=decide_eq_false c3;have c3b1:decide (20<l0.length)=false:=decide_eq_false (by omega);clear c3;replace H:=oa H;obtain⟨⟨t290,t291⟩,A4,H⟩:=H;(try dsimp only at H);replace H:=oa H;obtain⟨t292,A5,H⟩:=H;(try dsimp only at H);replace H:=oa H;obtain⟨t293,A6,H⟩:=H;(try dsimp only at H);obtain⟨y294,hy294⟩:∃ y_:List Int,y_=(([t291,t293]:List Int)):=⟨_,rfl⟩;replace H:((L_first.f k y294).bind fun t297=>(some (l0,t297)))=some (r1,r2):=hq hy294 H
  have Ny294:=m0 hy294;clear hy294;replace H:=oa H;obtain⟨t297,A7,H⟩:=H;(try dsimp only at H);simp only[Option.some.injEq,Prod.mk.injEq]at H;obtain⟨rfl,rfl⟩:=H;go_enter Tryz.func51,Tryz.ntmps51
  go_wp2_with (first|((with_reducible refine gc 78 rfl ?_);refine gl (some 13) Tryz.func78 #[.slice A0 l0.length c0,.func (.func 79) #[] #[]] ?_;(with_reducible refine(api_CloudShot_openShots_1.calls k _ _ l0  t290 t291 _ ?side1 ?side2 A4.out).mono ?_);(case side1=>exact bc (Kd.V_reads' HO0.out).2.2);(case side2=>exact(Kd.V_reads' HO0.out).2.1);rintro e w8 ⟨rfl,hb⟩;refine⟨_,rfl,?_⟩;replace HO0:=vb HO0 hb;replace HB:=sb HB hb;(try clear hb))|((with_reducible refine gc 46 rfl ?_);refine gl (some 19) Tryz.func46 #[.int .i64 a1,.int .i64 1,.int .i64 1000000] ?_;(with_reducible refine(L_within.calls a1 1 1000000 t292 _ A5.out).mono ?_);rintro e w' ⟨rfl,⟨nd,rfl⟩⟩;refine⟨_,rfl,?_⟩)|((with_reducible refine gc 45 rfl ?_);refine gl (some 20) Tryz.func45 #[.bool t292,.int .i64 2] ?_;(with_reducible refine(L_unless.calls t292 2 t293 _ A6.out).mono ?_);rintro e w' ⟨rfl,⟨nd,rfl⟩⟩;refine⟨_,rfl,?_⟩)|((with_reducible refine ga 21 rfl ?_);refine Kd.R_lit (Kd.int .i64) _ 30 ?hg (N:=21) ?hd (xs:=([t291,t293]:List Int)) (inner:=[.int .i64 t291,.int .i64 t293]) (ok:=fun _=>True) (okp:=fun _=>True) ?hr ?hp (fun _ hk=>hk) trivial (Below.refl _ _) (Nat.le_refl _) (by simp) ?_;(case hd=>rfl);(case hg=>rfl);(case hr=>first|(go_simp;done)|(go_simp;rfl));(case hp=>exact(Reps.one (ki t291) (Reps.one (ki t293) (Reps.none _ _))));intro v295 w9 ho10 hb hg_ hnew_;clear hg_ hnew_;(first|rw[← Ny294.out]at ho10|(simp only[Int.reduceToNat]at ho10;rw[← Ny294.out]at ho10));replace HO0:=m0 (Kd.V_elder' (va HO0.out) (Kd.R_base ho10) hb);have HO296:=m0 (Kd.R_lower (Kd.R_newM (M:=fun k_=>(w.heap.size≤k_)) ho10 (below_size bz) (fun k_ h_=>h_)) (below_size bz));replace HB:=sb HB hb;clear hb ho10;obtain⟨Ao11,co11,eo11⟩:=Kd.R_slice HO296.out;subst eo11)|((with_reducible refine gc 40 rfl ?_);refine gl (some 22) Tryz.func40 #[.slice Ao11 y294.length co11] ?_;(with_reducible refine(L_first.calls k _ _ y294 t297 _ ?side1 ?side2 A7.out).mono ?_);(case side1=>exact bc (Kd.R_reads' HO296.out).2.2);(case side2=>exact(Kd.R_reads' HO296.out).2.1);rintro e w' ⟨rfl,⟨nd,rfl⟩⟩;refine⟨_,rfl,?_⟩))
  go_ret2
  exact⟨_,e4,by(with_reducible repeat(first|apply Kd.V_alloc|apply Kd.V_drewN|apply Kd.V_drew));exact Kd.V_mono HO0.out (fun _ hk=>hk.1),bz⟩
end
section
def slices_Compact_int_int.ren:Go.Shelf.Ren:=⟨fun|20=>82|n=>n,fun|0=>0|3=>3|4=>4|22=>22|n=>n,fun|n=>n⟩
theorem slices_Compact_int_int.lays:Lays2.n20 Tryz.prog slices_Compact_int_int.ren where
 mixed:=by kernel_rfl
 f20:=Tryz.func82.trans (congrArg some (by kernel_rfl))
 t0:=Tryz.underlying0
 a0:=Tryz.isAgg0
 z0:=Tryz.sizeOf0
 v0:=Tryz.zeroValue0
 t3:=Tryz.underlying3
 a3:=Tryz.isAgg3
 z3:=Tryz.sizeOf3
 v3:=Tryz.zeroValue3
 t4:=Tryz.underlying4
 a4:=Tryz.isAgg4
 z4:=Tryz.sizeOf4
 v4:=Tryz.zeroValue4
 t22:=Tryz.underlying22
 a22:=Tryz.isAgg22
 z22:=Tryz.sizeOf22
 v22:=Tryz.zeroValue22
 i3:=info3
def slices_Compact_int_int.f (l0:List Int):Option (List Int):=if l0.length<4611686018427387904 then some (Lib.compact l0)else none
theorem compact_len_ (l:List Int):(Lib.compact l).length≤l.length:=by
 unfold Lib.compact Lib.compactUpTo;rw[List.length_map];exact Nat.le_trans (List.length_filter_le _ _) (by simp)
theorem slices_Compact_int_int.calls (P0_:Nat→Prop) (u9000_:Value) (l0:List Int) (r:List Int) (w0 w:World) (hB:Below w0.heap.size w0 w) (ho0:Kd.R (Kd.int .i64) 3 w w0.heap.size P0_ u9000_ l0) (h:slices_Compact_int_int.f l0=some r):
  Calls Tryz.prog 82 #[u9000_] w fun e w'=>∃ v0_:Value,e= .returned v0_∧Kd.R (Kd.int .i64) 3 w' w0.heap.size (fun k_=>(P0_ k_∨w.heap.size≤k_)) v0_ r∧Below w0.heap.size w0 w'∧Kept w w' (fun k_=>P0_ k_):=by
 unfold slices_Compact_int_int.f at h
 by_cases hsz:l0.length<4611686018427387904
 case neg=>simp[hsz]at h
 rw[if_pos hsz]at h;obtain rfl:=Option.some.inj h;have hok:=ho0.1;have ho:=Kd.own_of_R ho0;have hcl:=compact_len_ l0;obtain⟨hi,⟨rfl,h0⟩|⟨g,cap,cur,rfl,hbase,hb,h1,h2,h3,h4⟩⟩:=ho
 ·obtain rfl:l0=[]:=List.length_eq_zero_iff.1 h0;refine(Any.slices_Compact_int_empty slices_Compact_int_int.lays none 0 w).mono ?_;rintro e w' ⟨rfl,rfl⟩;exact⟨_,rfl,by rw[show Lib.compact ([]:List Int)=[]from rfl];exact Kd.R_nil _ _ _ _ _,hB,Kept.refl _ _⟩
 ·have hg:g<w.heap.size:=(Array.getElem?_eq_some_iff.1 hb).1;have h4':cur.toList.take l0.length=l0.map (Value.int .i64):=by simpa [encs]using h4
  refine(Any.slices_Compact_int slices_Compact_int_int.lays g 0 cap l0 w (holds_of_blockI hb h4') (by omega) h1).mono ?_;rintro e w' ⟨rfl,q,rfl⟩;generalize hcc:Lib.compact l0++List.replicate (l0.length-(Lib.compact l0).length) 0=ts;have htl:ts.length=l0.length:=by rw[← hcc,List.length_append,List.length_replicate];omega
  have hgb:=grownBy_sortedI (w:=w) (g:=g) (n:=q) (os:= #[]) ts.toArray;have hown:=ownsRow_sortedI (n:=q) (os:= #[]) (ts:=ts) htl hbase hb h1 h2 h3;rw[Go.Sort.grow_empty]at hgb hown;have hR:Kd.R (Kd.int .i64) 3 (Go.Sort.putRow (Value.int .i64) (Sort.ahead w q) g 0 ts.toArray) w0.heap.size (fun k_=>(P0_ k_∨w.heap.size≤k_)) (.slice (some ⟨g,0,none⟩) l0.length cap) ts:=by
   refine Kd.R_of_own (enc:=Value.int .i64) ?_ (fun k hk=> .inl (hok k hk));rw[← htl]at hown ⊢
   simpa [encs]using hown
  have hT:=Kd.R_take (m:=(Lib.compact l0).length) (by rw[← htl]at hR;exact hR) (by rw[← hcc,List.length_append];omega);rw[show ts.take (Lib.compact l0).length=Lib.compact l0 by rw[← hcc];simp]at hT;refine⟨_,rfl,hT,?_,Kept.of_grown hgb (Kept.refl _ _) (fun k hk=> .inl (hok k (by rw[← hk];rfl)))⟩;exact⟨hB.os,hB.tape,hB.output,Nat.le_trans hB.size hgb.size,fun k hk=>(hgb.block k (Nat.lt_of_lt_of_le hk hB.size) (fun e=>by cases e;omega)).trans (hB.block k hk)⟩
end
section
def L_shots_turns.l0:Nat→Int→List Int→List (S101)→Int→Int→Option (List Int)
 |0,_,_,_,_,_=>none
 |k+1,x1,x5,x9,x10,x11=>if x11<x10 then(if 0≤x11 then(if x11<(x9.length:Int)then((some (([(rd_T101 x9 x11).f0,(rd_T101 x9 x11).f1,wrap64 (((rd_T101 x9 x11).f0)+x1),wrap64 (((rd_T101 x9 x11).f1)+x1)]:List Int):List Int)).bind fun y303=>(if x5.length+y303.length<17592186044416 then(L_shots_turns.l0 k x1 (x5++y303) x9 x10 (wrap64 (x11+1)))else(none)))else(none))else(none))else((slices_Sort_int_int.f x5).bind fun t309=>((slices_Compact_int_int.f t309).bind fun t310=>(some t310)))
def L_shots_turns.f (k:Nat) (l0:List (S101)) (a1:Int):Option (List Int):=L_shots_turns.l0 k a1 (([0]:List Int)) l0 (l0.length:Int) 0
theorem L_shots_turns.mono_l:∀ k,(∀ y0 y1 y2 y3 y4,LeO (L_shots_turns.l0 k y0 y1 y2 y3 y4) (L_shots_turns.l0 (k+1) y0 y1 y2 y3 y4))
 |0=>fun _ _ _ _ _ r h=>by simp[L_shots_turns.l0]at h
 | k+1=>by
  have ih0:=L_shots_turns.mono_l k
  ·intro y0 y1 y2 y3 y4;unfold L_shots_turns.l0
   exact lz
theorem L_shots_turns.mono:∀ a0 a1 k,LeO (L_shots_turns.f k a0 a1) (L_shots_turns.f (k+1) a0 a1):=by
 intro a0 a1 k;have ih0:=L_shots_turns.mono_l k;unfold L_shots_turns.f
 exact lz
theorem L_shots_turns.calls (k:Nat) (A0:Option Addr) (c0:Nat) (l0:List (S101)) (a1:Int) (r:List Int) (w:World) (hr0:Kd.C k101 w A0 l0.length l0) (hc0:l0.length≤c0) (H:L_shots_turns.f k l0 a1=some r):
  Calls Tryz.prog 52 #[.slice A0 l0.length c0,.int .i64 a1] w fun e w'=>∃ v0_:Value,e= .returned (v0_)∧Kd.R (Kd.int .i64) 3 w' w.heap.size (fun _=>True) v0_ r∧Below w.heap.size w w':=by
 have hu101:=Tryz.underlying101;have HR0:=m0 hr0;have HC0:=m0 hc0;clear hr0 hc0;have HB:=m0 (Below.refl w.heap.size w);unfold L_shots_turns.f at H;obtain⟨y298,hy298⟩:∃ y_:List Int,y_=(([0]:List Int)):=⟨_,rfl⟩;replace H:(L_shots_turns.l0 k a1 y298 l0 (l0.length:Int) 0)=some r:=hq hy298 H
 have Ny298:=m0 hy298;clear hy298;have H':=m0 H;clear H;go_enter Tryz.func52,Tryz.ntmps52
 go_wp2_with (first|((with_reducible refine ga 8 rfl ?_);refine Kd.R_lit (Kd.int .i64) _ 3 ?hg (N:=8) ?hd (xs:=([0]:List Int)) (inner:=[.int .i64 0]) (ok:=fun _=>True) (okp:=fun _=>True) ?hr ?hp (fun _ hk=>hk) trivial (Below.refl _ _) (Nat.le_refl _) (by simp) ?_;(case hd=>rfl);(case hg=>rfl);(case hr=>first|(go_simp;done)|(go_simp;rfl));(case hp=>exact(Reps.one (ki 0) (Reps.none _ _)));intro v299 w3 ho4 hb hg_ hnew_;clear hg_ hnew_;(first|rw[← Ny298.out]at ho4|(simp only[Int.reduceToNat]at ho4;rw[← Ny298.out]at ho4));have HO300:=m0 (Kd.R_lower ho4 (below_size bz));replace HB:=sb HB hb;clear hb ho4))
 go_loopg [5,11] k (fun kq v5 v11 w'=>∃ (x5_1:List Int) (x11_1:Int),v11= .int .i64 x11_1∧Aside0 (L_shots_turns.l0 kq a1 x5_1 l0 (l0.length:Int) x11_1=some r)∧Aside0 (kq≤k)∧Aside0 (Kd.R (Kd.int .i64) 3 w' w.heap.size (fun _=>True) v5 x5_1)∧Aside0 (Below w.heap.size w w'))
 case atStart=>exact⟨(y298),(0),rz,H',⟨Nat.le_refl _⟩,⟨br HO300.out⟩,⟨bz⟩⟩
 case round=>
  clear H';obtain⟨x5_1,x11_1,rfl,HA,HK1,HO_5,HB⟩:=hrel
  cases gk with
  |zero=>exact absurd HA.out (by simp[L_shots_turns.l0])
  | succ k1=>
   have H:=HA.out;clear HA;simp only[L_shots_turns.l0]at H
   by_cases c5:x11_1<(l0.length:Int)
   ·rw [if_pos c5]at H;have c5b0:=decide_eq_true c5;clear c5
    by_cases c6:0≤x11_1
    ·rw [if_pos c6]at H;have c6b0:=decide_eq_true c6;clear c6
     by_cases c7:x11_1<(l0.length:Int)
     ·rw [if_pos c7]at H;have c7b0:=decide_eq_true c7;clear c7;obtain⟨y303,hy303⟩:∃ y_:List Int,y_=(([(rd_T101 l0 x11_1).f0,(rd_T101 l0 x11_1).f1,wrap64 (((rd_T101 l0 x11_1).f0)+a1),wrap64 (((rd_T101 l0 x11_1).f1)+a1)]:List Int)):=⟨_,rfl⟩;replace H:(if x5_1.length+y303.length<17592186044416 then(L_shots_turns.l0 k1 a1 (x5_1++y303) l0 (l0.length:Int) (wrap64 (x11_1+1)))else(none))=some r:=hq hy303 H
      have Ny303:=m0 hy303;clear hy303
      by_cases c8:x5_1.length+y303.length<17592186044416
      ·rw [if_pos c8]at H;have LMc8:=m0 c8;clear c8;obtain⟨y306,hy306⟩:∃ y_:List Int,y_=(x5_1++y303):=⟨_,rfl⟩;replace H:(L_shots_turns.l0 k1 a1 y306 l0 (l0.length:Int) (wrap64 (x11_1+1)))=some r:=hq hy306 H
       have Ny306:=m0 hy306;clear hy306;have H':=m0 H;clear H;have p301:0≤(x11_1:Int):=od;have q301:x11_1<(l0.length:Int):=od;obtain⟨ad301,e301,hx301_0,hx301_1,hx301_2⟩:=at_T101 HR0.out x11_1 p301 q301
       cases e301
       replace hx301_0:=hc HB hx301_0;replace hx301_1:=hc HB hx301_1;replace hx301_2:=hc HB hx301_2;replace p301:=eq_true p301;replace q301:=eq_true q301
       go_wp2_with (first|((with_reducible refine ga 7 rfl ?_);refine be 7 101 #[.int .i64 0,.int .i64 0,.int .i64 0] ?_;intro gb302 hg w9 hbox hb;replace HO_5:=rb HO_5 hb;have BK302:=m0 hbox;have GE302:=gw w hg;replace HB:=sb HB hb;clear hb hbox hg;obtain⟨_,_,_,_,_,_⟩:=b3 BK302)|((with_reducible refine ga 28 rfl ?_);refine Kd.R_lit (Kd.int .i64) _ 3 ?hg (N:=28) ?hd (xs:=([(rd_T101 l0 x11_1).f0,(rd_T101 l0 x11_1).f1,wrap64 (((rd_T101 l0 x11_1).f0)+a1),wrap64 (((rd_T101 l0 x11_1).f1)+a1)]:List Int)) (inner:=[.int .i64 ((rd_T101 l0 x11_1).f0),.int .i64 ((rd_T101 l0 x11_1).f1),.int .i64 (wrap64 (((rd_T101 l0 x11_1).f0)+a1)),.int .i64 (wrap64 (((rd_T101 l0 x11_1).f1)+a1))]) (ok:=fun _=>True) (okp:=fun _=>True) ?hr ?hp (fun _ hk=>hk) trivial (Below.refl _ _) (Nat.le_refl _) (by simp) ?_;(case hd=>rfl);(case hg=>rfl);(case hr=>first|(go_simp;done)|(go_simp;rfl));(case hp=>exact(Reps.one (ki ((rd_T101 l0 x11_1).f0)) (Reps.one (ki ((rd_T101 l0 x11_1).f1)) (Reps.one (ki (wrap64 (((rd_T101 l0 x11_1).f0)+a1))) (Reps.one (ki (wrap64 (((rd_T101 l0 x11_1).f1)+a1))) (Reps.none _ _))))));intro v304 w11 ho12 hb hg_ hnew_;clear hg_ hnew_;(first|rw[← Ny303.out]at ho12|(simp only[Int.reduceToNat]at ho12;rw[← Ny303.out]at ho12));have HO305:=m0 (Kd.R_lower (Kd.R_new' ho12 (Kd.R_lt (by(with_reducible repeat(first|apply Kd.R_alloc|apply Kd.R_drewN|apply Kd.R_drew));exact(Kd.R_mono (rf (rf (rf (Kd.R_types HO_5.out BK302.out (by decide)) (·.2)) (·.2)) (·.2)) (fun _ h_=>h_.1))))) (below_size bz));replace HO_5:=m0 (Kd.R_elder' (by(with_reducible repeat(first|apply Kd.R_alloc|apply Kd.R_drewN|apply Kd.R_drew));exact(Kd.R_mono (rf (rf (rf (Kd.R_types HO_5.out BK302.out (by decide)) (·.2)) (·.2)) (·.2)) (fun _ h_=>h_.1))) (Kd.R_base ho12) hb);replace BK302:=m0 (blk_below (g:=gb302) (o:= .cells #[.int .i64 ((rd_T101 l0 x11_1).f0),.int .i64 ((rd_T101 l0 x11_1).f1),.int .i64 ((rd_T101 l0 x11_1).f2)] 101 (0,0)) (bq BK302.out) hb);replace HB:=sb HB hb;clear hb ho12;obtain⟨Ao14,co14,eo14⟩:=Kd.R_slice HO305.out;subst eo14)|((with_reducible refine gate_builtin (b:= .append) (xs:= #[.tmp 15,.tmp 28]) rfl ?_);at_builtin;refine Kd.R_append_rows (Kd.int .i64) (w0:=w) w.heap.size rfl (.tmp 15) (.tmp 28) 22 3 (.int .i64 0) 8 rfl Tryz.underlying22 info3 rfl (by decide) (by omega) u5 x5_1 y303 _ _ _ (fun k_=>some k_≠(.slice Ao14 y303.length co14:Value).ownBlock) (fun _=>False) rfl rfl ?aO ?aR (fun _ _ h=>h) (fun _ h=>h.elim) ?aF ?aB ?aS ?aL ?_;(case aR=>exact bc (Kd.R_reads' HO305.out).2.2);(case aB=>exact bz);(case aF=>exact(fun k_ hk=>Kd.fresh' (Kd.R_lt (br HO305.out)) k_ hk));(case aO=>exact(rm HO_5.out (fun _ hk=>hk.2)));(case aS=>exact(below_size bz));(case aL=>have:=LMc8.out;omega);intro v307 w13 ho hb hg hat;rw[← Ny306.out]at ho;have n0_:=m0 (blk_grown (g:=gb302) (o:= .cells #[.int .i64 ((rd_T101 l0 x11_1).f0),.int .i64 ((rd_T101 l0 x11_1).f1),.int .i64 ((rd_T101 l0 x11_1).f2)] 101 (0,0)) (bk BK302.out) hg (Kd.R_ne HO_5.out BK302.out (by decide)));have n1_:=m0 (Kd.R_after (ok:=(fun _=>True)) (br HO305.out) hg hat);have n2_:=m0 (hb);have n3_:=m0 (ho);clear BK302 HO305 HB HO_5;have BK302:=n0_;have HO305:=n1_;have HB:=n2_;have HO308:=n3_;clear n0_ n1_ n2_ n3_;clear ho hb hg hat))
       go_roundg k1
       case measure=>have:=HK1.out;omega
       case rel=>exact⟨(y306),(wrap64 (x11_1+1)),rz,H',⟨by have:=HK1.out;omega⟩,⟨by (with_reducible repeat(first|apply Kd.R_alloc|apply Kd.R_drewN|apply Kd.R_drew));exact Kd.R_mono HO308.out (fun _ hk=>trivial)⟩,⟨bz⟩⟩
      ·rw [if_neg c8]at H;exact absurd H (by simp)
     ·rw [if_neg c7]at H;exact absurd H (by simp)
    ·rw [if_neg c6]at H;exact absurd H (by simp)
   ·rw [if_neg c5]at H;have c5b0:=decide_eq_false c5;clear c5;replace H:=oa H;obtain⟨t309,A15,H⟩:=H;(try dsimp only at H);replace H:=oa H;obtain⟨t310,A16,H⟩:=H;(try dsimp only at H);obtain rfl:=Option.some.inj H;obtain⟨Ao17,co17,eo17⟩:=Kd.R_slice HO_5.out;subst eo17
    go_wp2_with (first|((with_reducible refine gc 81 rfl ?_);refine gl (some 32) Tryz.func81 #[.slice Ao17 x5_1.length co17] ?_;(with_reducible refine(slices_Sort_int_int.calls (fun k_=>some k_=(.slice Ao17 x5_1.length co17:Value).ownBlock) (.slice Ao17 x5_1.length co17) x5_1 t309 w _ ?side1 ?side2 A15.out).mono ?_);(case side1=>exact bz);(case side2=>exact Kd.R_tight rfl HO_5.out);rintro e w18 ⟨rfl,hy0,hb,hkp⟩;refine⟨_,rfl,?_⟩;replace HO_5:=m0 (Kd.R_reok rfl hy0 (fun k_ e_=>HO_5.out.1 k_ e_));replace HB:=m0 (hb);(try clear hb);(try clear hkp);(try clear hy0))|((with_reducible refine gc 82 rfl ?_);refine gl (some 34) Tryz.func82 #[.slice Ao17 x5_1.length co17] ?_;(with_reducible refine(slices_Compact_int_int.calls (fun k_=>some k_=(.slice Ao17 x5_1.length co17:Value).ownBlock) (.slice Ao17 x5_1.length co17) t309 t310 w _ ?side1 ?side2 A16.out).mono ?_);(case side1=>exact bz);(case side2=>exact Kd.R_tight rfl HO_5.out);rintro e w19 ⟨v311,rfl,ho0,hb,hkp⟩;refine⟨_,rfl,?_⟩;have n0_:=m0 (Kd.R_mono (ok':=fun k_=>True) ho0 (fun k_ hk_=>trivial));have n1_:=m0 (hb);clear HB HO_5;have HO312:=n0_;have HB:=n1_;clear n0_ n1_;(try clear hb);(try clear hkp);(try clear ho0)))
    go_ret
    exact⟨_,e4,by(with_reducible repeat(first|apply Kd.R_alloc|apply Kd.R_drewN|apply Kd.R_drew));exact HO312.out,bz⟩
end
section
def L_shots_until.l0:Nat→Int→Int→List (S101)→Int→Int→Option (Int)
 |0,_,_,_,_,_=>none
 |k+1,x1,x5,x8,x9,x10=>if x10<x9 then(if 0≤x10 then(if x10<(x8.length:Int)then(L_shots_until.l0 k x1 (wrap64 (x5+(wrap64 (((rd_T101 x8 x10).f2)*(mx 0 (wrap64 ((mn x1 ((rd_T101 x8 x10).f1))-((rd_T101 x8 x10).f0)))))))) x8 x9 (wrap64 (x10+1)))else(none))else(none))else(some x5)
def L_shots_until.f (k:Nat) (l0:List (S101)) (a1:Int):Option (Int):=L_shots_until.l0 k a1 0 l0 (l0.length:Int) 0
theorem L_shots_until.mono_l:∀ k,(∀ y0 y1 y2 y3 y4,LeO (L_shots_until.l0 k y0 y1 y2 y3 y4) (L_shots_until.l0 (k+1) y0 y1 y2 y3 y4))
 |0=>fun _ _ _ _ _ r h=>by simp[L_shots_until.l0]at h
 | k+1=>by
  have ih0:=L_shots_until.mono_l k
  ·intro y0 y1 y2 y3 y4;unfold L_shots_until.l0
   exact lz
theorem L_shots_until.mono:∀ a0 a1 k,LeO (L_shots_until.f k a0 a1) (L_shots_until.f (k+1) a0 a1):=by
 intro a0 a1 k;have ih0:=L_shots_until.mono_l k;unfold L_shots_until.f
 exact lz
theorem L_shots_until.calls (k:Nat) (A0:Option Addr) (c0:Nat) (l0:List (S101)) (a1:Int) (r:Int) (w:World) (hr0:Kd.C k101 w A0 l0.length l0) (hc0:l0.length≤c0) (H:L_shots_until.f k l0 a1=some r):
  Calls Tryz.prog 83 #[.slice A0 l0.length c0,.int .i64 a1] w fun e w'=>e= .returned (.int .i64 r)∧Below w.heap.size w w':=by
 have hu101:=Tryz.underlying101;have HR0:=m0 hr0;have HC0:=m0 hc0;clear hr0 hc0;have HB:=m0 (Below.refl w.heap.size w);unfold L_shots_until.f at H;have H':=m0 H;clear H;go_enter Tryz.func83,Tryz.ntmps83
 go_wp2
 go_loopg [5,10] k (fun kq v5 v10 w'=>∃ (x5_1:Int) (x10_1:Int),v5= .int .i64 x5_1∧v10= .int .i64 x10_1∧Aside0 (L_shots_until.l0 kq a1 x5_1 l0 (l0.length:Int) x10_1=some r)∧Aside0 (kq≤k)∧Aside0 (Below w.heap.size w w'))
 case atStart=>exact⟨(0),(0),rz,rz,H',⟨Nat.le_refl _⟩,⟨bz⟩⟩
 case round=>
  clear H';obtain⟨x5_1,x10_1,rfl,rfl,HA,HK1,HB⟩:=hrel
  cases gk with
  |zero=>exact absurd HA.out (by simp[L_shots_until.l0])
  | succ k1=>
   have H:=HA.out;clear HA;simp only[L_shots_until.l0]at H
   by_cases c3:x10_1<(l0.length:Int)
   ·rw [if_pos c3]at H;have c3b0:=decide_eq_true c3;clear c3
    by_cases c4:0≤x10_1
    ·rw [if_pos c4]at H;have c4b0:=decide_eq_true c4;clear c4
     by_cases c5:x10_1<(l0.length:Int)
     ·rw [if_pos c5]at H;have c5b0:=decide_eq_true c5;clear c5;obtain⟨ji6,hji6⟩:∃ j_:Int,(mn a1 ((rd_T101 l0 x10_1).f1))=j_:=⟨_,rfl⟩;replace H:(L_shots_until.l0 k1 a1 (wrap64 (x5_1+(wrap64 (((rd_T101 l0 x10_1).f2)*(mx 0 (wrap64 ((ji6)-((rd_T101 l0 x10_1).f0)))))))) l0 (l0.length:Int) (wrap64 (x10_1+1)))=some r:=by first|(rw[hji6]at H;exact H)|(simp only[hji6]at H ⊢;exact H)
      have hji6_:(if((rd_T101 l0 x10_1).f1)<a1 then((rd_T101 l0 x10_1).f1)else a1)=ji6:=hji6;obtain⟨ji7,hji7⟩:∃ j_:Int,(mx 0 (wrap64 ((ji6)-((rd_T101 l0 x10_1).f0))))=j_:=⟨_,rfl⟩;replace H:(L_shots_until.l0 k1 a1 (wrap64 (x5_1+(wrap64 (((rd_T101 l0 x10_1).f2)*(ji7))))) l0 (l0.length:Int) (wrap64 (x10_1+1)))=some r:=by first|(rw[hji7]at H;exact H)|(simp only[hji7]at H ⊢;exact H)
      have hji7_:(if 0<(wrap64 ((ji6)-((rd_T101 l0 x10_1).f0)))then(wrap64 ((ji6)-((rd_T101 l0 x10_1).f0)))else 0)=ji7:=hji7;have H':=m0 H;clear H;have p313:0≤(x10_1:Int):=od;have q313:x10_1<(l0.length:Int):=od;obtain⟨ad313,e313,hx313_0,hx313_1,hx313_2⟩:=at_T101 HR0.out x10_1 p313 q313
      cases e313
      replace hx313_0:=hc HB hx313_0;replace hx313_1:=hc HB hx313_1;replace hx313_2:=hc HB hx313_2;replace p313:=eq_true p313;replace q313:=eq_true q313
      go_wp2_with (first|((with_reducible refine ga 7 rfl ?_);refine be 7 101 #[.int .i64 0,.int .i64 0,.int .i64 0] ?_;intro gb314 hg w8 hbox hb;have BK314:=m0 hbox;have GE314:=gw w hg;replace HB:=sb HB hb;clear hb hbox hg;obtain⟨_,_,_,_,_,_⟩:=b3 BK314))
      go_roundg k1
      case measure=>have:=HK1.out;omega
      case rel=>exact⟨(wrap64 (x5_1+(wrap64 (((rd_T101 l0 x10_1).f2)*(ji7))))),(wrap64 (x10_1+1)),(by first|rfl|(simp;done)|(simp only[← hji7]<;>(first|rfl|simp))|(simp[*];done)),rz,H',⟨by have:=HK1.out;omega⟩,⟨bz⟩⟩
     ·rw [if_neg c5]at H;exact absurd H (by simp)
    ·rw [if_neg c4]at H;exact absurd H (by simp)
   ·rw [if_neg c3]at H;have c3b0:=decide_eq_false c3;clear c3;obtain rfl:=Option.some.inj H
    go_wp2
    go_ret
    exact ez
end
section
def L_shots_in.f (k:Nat) (l0:List (S101)) (a1:Int) (a2:Int):Option (Int):=(L_shots_until.f k l0 a2).bind fun t315=>((L_shots_until.f k l0 (wrap64 (a2-a1))).bind fun t316=>(some (wrap64 (t315-t316))))
theorem L_shots_in.mono:∀ a0 a1 a2 k,LeO (L_shots_in.f k a0 a1 a2) (L_shots_in.f (k+1) a0 a1 a2):=by
 intro a0 a1 a2 k;unfold L_shots_in.f
 have m1:=@L_shots_until.mono;exact lz
theorem L_shots_in.calls (k:Nat) (A0:Option Addr) (c0:Nat) (l0:List (S101)) (a1:Int) (a2:Int) (r:Int) (w:World) (hr0:Kd.C k101 w A0 l0.length l0) (hc0:l0.length≤c0) (H:L_shots_in.f k l0 a1 a2=some r):
  Calls Tryz.prog 53 #[.slice A0 l0.length c0,.int .i64 a1,.int .i64 a2] w fun e w'=>e= .returned (.int .i64 r)∧Below w.heap.size w w':=by
 have HR0:=m0 hr0;have HC0:=m0 hc0;clear hr0 hc0;have HB:=m0 (Below.refl w.heap.size w);unfold L_shots_in.f at H;replace H:=oa H;obtain⟨t315,A4,H⟩:=H;(try dsimp only at H);replace H:=oa H;obtain⟨t316,A5,H⟩:=H;(try dsimp only at H);obtain rfl:=Option.some.inj H;go_enter Tryz.func53,Tryz.ntmps53
 go_wp2_with (first|((with_reducible refine gc 83 rfl ?_);refine gl (some 9) Tryz.func83 #[.slice A0 l0.length c0,.int .i64 a2] ?_;(with_reducible refine(L_shots_until.calls k _ _ l0 a2 t315 _ ?side1 ?side2 A4.out).mono ?_);(case side1=>exact cd HR0.out);(case side2=>exact HC0.out);rintro e w6 ⟨rfl,hb⟩;refine⟨_,rfl,?_⟩;replace HB:=sb HB hb;(try clear hb))|((with_reducible refine gc 83 rfl ?_);refine gl (some 14) Tryz.func83 #[.slice A0 l0.length c0,.int .i64 (wrap64 (a2-a1))] ?_;(with_reducible refine(L_shots_until.calls k _ _ l0 (wrap64 (a2-a1)) t316 _ ?side1 ?side2 A5.out).mono ?_);(case side1=>exact cb HR0 HB);(case side2=>exact HC0.out);rintro e w7 ⟨rfl,hb⟩;refine⟨_,rfl,?_⟩;replace HB:=sb HB hb;(try clear hb)))
 go_ret
 exact ez
end
section
def L_ExposureOf.l0:Nat→Int→List (S101)→Int→List Int→Int→Int→Option (Int×Int)
 |0,_,_,_,_,_,_=>none
 |k+1,x1,x6,x8,x22,x23,x24=>if x24<x23 then(if 0≤x24 then(if x24<(x22.length:Int)then((L_shots_in.f k x6 x1 (rd x22 x24)).bind fun t325=>(L_ExposureOf.l0 k x1 x6 (mx x8 t325) x22 x23 (wrap64 (x24+1))))else(none))else(none))else(some (x8,0))
def L_ExposureOf.f (k:Nat) (l0:List (S101)) (a1:Int):Option (Int×Int):=(L_openShots.f k l0 a1).bind fun bt317=>(if bt317.2=0 then((L_shots_turns.f k bt317.1 a1).bind fun t321=>(L_ExposureOf.l0 k a1 bt317.1 0 t321 (t321.length:Int) 0))else(some (0,bt317.2)))
theorem L_ExposureOf.mono_l:∀ k,(∀ y0 y1 y2 y3 y4 y5,LeO (L_ExposureOf.l0 k y0 y1 y2 y3 y4 y5) (L_ExposureOf.l0 (k+1) y0 y1 y2 y3 y4 y5))
 |0=>fun _ _ _ _ _ _ r h=>by simp[L_ExposureOf.l0]at h
 | k+1=>by
  have ih0:=L_ExposureOf.mono_l k
  ·intro y0 y1 y2 y3 y4 y5;unfold L_ExposureOf.l0
   have m1:=@L_openShots.mono;have m2:=@L_shots_in.mono;have m3:=@L_shots_turns.mono;exact lz
theorem L_ExposureOf.mono:∀ a0 a1 k,LeO (L_ExposureOf.f k a0 a1) (L_ExposureOf.f (k+1) a0 a1):=by
 intro a0 a1 k;have ih0:=L_ExposureOf.mono_l k;unfold L_ExposureOf.f
 have m1:=@L_openShots.mono;have m2:=@L_shots_in.mono;have m3:=@L_shots_turns.mono;exact lz
theorem L_ExposureOf.calls (k:Nat) (A0:Option Addr) (c0:Nat) (l0:List (S101)) (a1:Int) (r1:Int) (r2:Int) (w:World) (hr0:Kd.C k101 w A0 l0.length l0) (hc0:l0.length≤c0) (H:L_ExposureOf.f k l0 a1=some (r1,r2)):
  Calls Tryz.prog 24 #[.slice A0 l0.length c0,.int .i64 a1] w fun e w'=>e= .returned (.tuple #[.int .i64 r1,.int .i64 r2])∧Below w.heap.size w w':=by
 have HR0:=m0 hr0;have HC0:=m0 hc0;clear hr0 hc0;have HB:=m0 (Below.refl w.heap.size w);unfold L_ExposureOf.f at H;replace H:=oa H;obtain⟨⟨t317,t320⟩,A3,H⟩:=H;(try dsimp only at H)
 by_cases c4:t320=0
 ·rw [if_pos c4]at H;have c4b0:=beq_iff_eq.mpr c4;have c4b1:=bne_eq_false_iff_eq.mpr c4;clear c4;replace H:=oa H;obtain⟨t321,A5,H⟩:=H;(try dsimp only at H);have H':=m0 H;clear H;go_enter Tryz.func24,Tryz.ntmps24
  go_wp2_with (first|((with_reducible refine gc 51 rfl ?_);refine gl (some 14) Tryz.func51 #[.slice A0 l0.length c0,.int .i64 a1] ?_;(with_reducible refine(L_openShots.calls k (fun k_=>k_<w.heap.size) _ _ l0 a1 t317 t320 _ ?side1 A3.out).mono ?_);(case side1=>exact Kd.V_mk HC0.out (Kd.F_below (Kd.C_F k101_heap HR0.out) bz));rintro e w6 ⟨v318,rfl,ho0,hb⟩;refine⟨_,rfl,?_⟩;have HO319:=hv w (fun k_=>True) ho0 (fun k_ hk_=>trivial);replace HB:=sb HB hb;(try clear hb);(try clear ho0);obtain⟨Ao7,co7,eo7⟩:=Kd.V_slice HO319.out;subst eo7)|((with_reducible refine gc 52 rfl ?_);refine gl (some 22) Tryz.func52 #[.slice Ao7 t317.length co7,.int .i64 a1] ?_;(with_reducible refine(L_shots_turns.calls k _ _ t317 a1 t321 _ ?side1 ?side2 A5.out).mono ?_);(case side1=>exact bc (Kd.V_reads' HO319.out).2.2);(case side2=>exact(Kd.V_reads' HO319.out).2.1);rintro e w8 ⟨v322,rfl,ho0,hb⟩;refine⟨_,rfl,?_⟩;replace HO319:=m0 (Kd.V_elder' (va HO319.out) (Kd.R_base ho0) hb);have HO323:=m0 (Kd.R_lower ho0 (below_size bz));replace HB:=sb HB hb;(try clear hb);(try clear ho0);obtain⟨Ao9,co9,eo9⟩:=Kd.R_slice HO323.out;subst eo9))
  go_loopg [8,24] k (fun kq v8 v24 w'=>∃ (x8_1:Int) (x24_1:Int),v8= .int .i64 x8_1∧v24= .int .i64 x24_1∧Aside0 (L_ExposureOf.l0 kq a1 t317 x8_1 t321 (t321.length:Int) x24_1=some (r1,r2))∧Aside0 (kq≤k)∧Aside0 (Kd.V k101 101 w' w.heap.size (fun k_=>some k_≠((.slice Ao9 t321.length co9):Value).ownBlock) (.slice Ao7 t317.length co7) t317)∧Aside0 (Kd.R (Kd.int .i64) 3 w' w.heap.size (fun _=>True) (.slice Ao9 t321.length co9) t321)∧Aside0 (Below w.heap.size w w'))
  case atStart=>exact⟨(0),(0),rz,rz,H',⟨Nat.le_refl _⟩,⟨by (with_reducible repeat(first|apply Kd.V_alloc|apply Kd.V_drewN|apply Kd.V_drew));exact Kd.V_mono HO319.out (fun _ hk=>hk.2)⟩,⟨br HO323.out⟩,⟨bz⟩⟩
  case round=>
   clear H';obtain⟨x8_1,x24_1,rfl,rfl,HA,HK1,HO_6,HO_22,HB⟩:=hrel
   cases gk with
   |zero=>exact absurd HA.out (by simp[L_ExposureOf.l0])
   | succ k1=>
    have H:=HA.out;clear HA;simp only[L_ExposureOf.l0]at H
    by_cases c10:x24_1<(t321.length:Int)
    ·rw [if_pos c10]at H;have c10b0:=decide_eq_true c10;clear c10
     by_cases c11:0≤x24_1
     ·rw [if_pos c11]at H;have c11b0:=decide_eq_true c11;clear c11
      by_cases c12:x24_1<(t321.length:Int)
      ·rw [if_pos c12]at H;have c12b0:=decide_eq_true c12;clear c12;replace H:=oa H;obtain⟨t325,A13,H⟩:=H;(try dsimp only at H);obtain⟨ji14,hji14⟩:∃ j_:Int,(mx x8_1 t325)=j_:=⟨_,rfl⟩;replace H:(L_ExposureOf.l0 k1 a1 t317 ji14 t321 (t321.length:Int) (wrap64 (x24_1+1)))=some (r1,r2):=by first|(rw[hji14]at H;exact H)|(simp only[hji14]at H ⊢;exact H)
       (try rw[hji14]at A13);have hji14_:(if x8_1<t325 then t325 else x8_1)=ji14:=hji14;have H':=m0 H;clear H;have p324:0≤(x24_1:Int):=od;have q324:x24_1<(t321.length:Int):=od;obtain⟨ad324,e324,hx324_0⟩:=Kd.at_int (Kd.R_reads' HO_22.out).2.2 x24_1 p324 q324
       cases e324
       replace p324:=eq_true p324;replace q324:=eq_true q324
       go_wp2_with (first|((with_reducible refine gc 53 rfl ?_);refine gl (some 32) Tryz.func53 #[.slice Ao7 t317.length co7,.int .i64 a1,.int .i64 (rd t321 x24_1)] ?_;(with_reducible refine(L_shots_in.calls k1 _ _ t317 a1 (rd t321 x24_1) t325 _ ?side1 ?side2 A13.out).mono ?_);(case side1=>exact bc (Kd.V_reads' HO_6.out).2.2);(case side2=>exact(Kd.V_reads' HO_6.out).2.1);rintro e w15 ⟨rfl,hb⟩;refine⟨_,rfl,?_⟩;replace HO_6:=vb HO_6 hb;replace HO_22:=rb HO_22 hb;replace HB:=sb HB hb;(try clear hb)))
       go_roundg k1
       case measure=>have:=HK1.out;omega
       case rel=>exact⟨(ji14),(wrap64 (x24_1+1)),(by first|rfl|(simp;done)|(simp only[← hji14]<;>(first|rfl|simp))|(simp[*];done)),rz,H',⟨by have:=HK1.out;omega⟩,⟨by (with_reducible repeat(first|apply Kd.V_alloc|apply Kd.V_drewN|apply Kd.V_drew));exact HO_6.out⟩,⟨br HO_22.out⟩,⟨bz⟩⟩
      ·rw [if_neg c12]at H;exact absurd H (by simp)
     ·rw [if_neg c11]at H;exact absurd H (by simp)
    ·rw [if_neg c10]at H;have c10b0:=decide_eq_false c10;clear c10;simp only[Option.some.injEq,Prod.mk.injEq]at H;obtain⟨rfl,rfl⟩:=H
     go_wp2
     go_ret2
     exact ez
 ·rw [if_neg c4]at H;have c4b0:=beq_eq_false_iff_ne.mpr c4;have c4b1:=bne_iff_ne.mpr c4;simp only[Option.some.injEq,Prod.mk.injEq]at H;obtain⟨rfl,rfl⟩:=H;go_enter Tryz.func24,Tryz.ntmps24
  go_wp2_with (first|((with_reducible refine gc 51 rfl ?_);refine gl (some 14) Tryz.func51 #[.slice A0 l0.length c0,.int .i64 a1] ?_;(with_reducible refine(L_openShots.calls k (fun k_=>k_<w.heap.size) _ _ l0 a1 t317 t320 _ ?side1 A3.out).mono ?_);(case side1=>exact Kd.V_mk HC0.out (Kd.F_below (Kd.C_F k101_heap HR0.out) bz));rintro e w16 ⟨v318,rfl,ho0,hb⟩;refine⟨_,rfl,?_⟩;have HO319:=hv w (fun k_=>True) ho0 (fun k_ hk_=>trivial);replace HB:=sb HB hb;(try clear hb);(try clear ho0)))
  go_ret2
  exact ez
end
section
def Lw_Shots.f  :Option ((List (S101))):=some (([(⟨0,3,2⟩:S101),(⟨2,5,4⟩:S101)]:List (S101)))
theorem Lw_Shots.calls  (r:List (S101)) (w:World) (H:Lw_Shots.f  =some r):
  Calls Tryz.prog 25 #[] w fun e w'=>∃ v0_:Value,e= .returned (v0_)∧Kd.R k101 101 w' w.heap.size (fun _=>True) v0_ r∧Below w.heap.size w w':=by
 have hu101:=Tryz.underlying101;have HB:=m0 (Below.refl w.heap.size w);unfold Lw_Shots.f at H;obtain⟨y326,hy326⟩:∃ y_:List (S101),y_=(([(⟨0,3,2⟩:S101),(⟨2,5,4⟩:S101)]:List (S101))):=⟨_,rfl⟩;replace H:(some y326)=some r:=hq hy326 H
 have Ny326:=m0 hy326;clear hy326;obtain rfl:=Option.some.inj H;go_enter Tryz.func25,Tryz.ntmps25
 go_wp2_with (first|((with_reducible refine ga 3 rfl ?_);refine Kd.R_lit k101 _ 101 ?hg (N:=3) ?hd (xs:=([(⟨0,3,2⟩:S101),(⟨2,5,4⟩:S101)]:List (S101))) (inner:=[.int .i64 0,.int .i64 3,.int .i64 2,.int .i64 2,.int .i64 5,.int .i64 4]) (ok:=fun _=>True) (okp:=fun _=>True) ?hr ?hp (fun _ hk=>hk) trivial (Below.refl _ _) (Nat.le_refl _) (by simp) ?_;(case hd=>rfl);(case hg=>rfl);(case hr=>first|(go_simp;done)|(go_simp;rfl));(case hp=>exact(Reps.c3 (show Kd.M k101 _ _ _ (⟨0,3,2⟩:S101) [.int .i64 0,.int .i64 3,.int .i64 2]from(k101_mkM _ _ _ (⟨0,3,2⟩:S101) )) (Reps.c3 (show Kd.M k101 _ _ _ (⟨2,5,4⟩:S101) [.int .i64 2,.int .i64 5,.int .i64 4]from(k101_mkM _ _ _ (⟨2,5,4⟩:S101) )) (Reps.none _ _))));intro v327 w1 ho2 hb hg_ hnew_;clear hg_ hnew_;(first|rw[← Ny326.out]at ho2|(simp only[Int.reduceToNat]at ho2;rw[← Ny326.out]at ho2));have HO328:=m0 (Kd.R_lower ho2 (below_size bz));replace HB:=sb HB hb;clear hb ho2))
 go_ret
 exact⟨_,e4,by(with_reducible repeat(first|apply Kd.R_alloc|apply Kd.R_drewN|apply Kd.R_drew));exact HO328.out,bz⟩
end
end Go.Proofs.YteiafijbgjgiaaaGreatDoor.A
