/- Walks of the program's functions (printed, made shorter), each with what it computes. -/
import Derived.Test.YteiafijbgjgiaaaGreatDoorS22
namespace Go.Proofs.YteiafijbgjgiaaaGreatDoor.A
set_option maxHeartbeats 8000000
set_option maxRecDepth 100000
open Go.RowKit Go.Proofs.YteiafijbgjgiaaaGreatDoorW.PrintWords Go.Proofs.YteiafijbgjgiaaaGreatDoorW.PrintLast Go.Proofs.YteiafijbgjgiaaaGreatDoorW.PrintMore
attribute [local go_sem] max2_int min2_int max_two min_two max_three min_three max_four min_four
set_option linter.unusedVariables false
set_option linter.unusedSimpArgs false
section
def Rf_numbers.l0:Nat→List Int→List ByteArray→Int→Option (List Int×Bool)
 |0,_,_,_=>none
 |k+1,x4,x5,x6=>if x6<(x5.length:Int)then(if 0≤x6 then((Bs_Number.f k (rdOf ByteArray.empty x5 x6) 5).bind fun bt435=>(if bt435.2=true then(if bt435.1<0 then(some (([]:List Int),false))else(if x4.length<17592186044416 then(Rf_numbers.l0 k (x4++ [bt435.1]) x5 (wrap64 (x6+1)))else(none)))else(some (([]:List Int),false))))else(none))else(some (x4,true))
def Rf_numbers.f (k:Nat) (a0:ByteArray):Option (List Int×Bool):=(Bs_Cut.f k a0 32).bind fun t431=>(Rf_numbers.l0 k ([]:List Int) t431 0)
theorem Rf_numbers.mono_l:∀ k,(∀ y0 y1 y2,LeO (Rf_numbers.l0 k y0 y1 y2) (Rf_numbers.l0 (k+1) y0 y1 y2))
 |0=>fun _ _ _ r h=>by simp[Rf_numbers.l0]at h
 | k+1=>by
  have ih0:=Rf_numbers.mono_l k
  ·intro y0 y1 y2;unfold Rf_numbers.l0
   have m1:=@Bs_Cut.mono;have m2:=@Bs_Number.mono;exact lz
theorem Rf_numbers.mono:∀ a0 k,LeO (Rf_numbers.f k a0) (Rf_numbers.f (k+1) a0):=by
 intro a0 k;have ih0:=Rf_numbers.mono_l k;unfold Rf_numbers.f
 have m1:=@Bs_Cut.mono;have m2:=@Bs_Number.mono;exact lz
theorem Rf_numbers.calls (k:Nat) (a0:ByteArray) (r1:List Int) (r2:Bool) (w:World) (H:Rf_numbers.f k a0=some (r1,r2)):
  Calls Tryz.prog 34 #[.string a0] w fun e w'=>∃ v0_:Value,e= .returned (.tuple #[v0_,.bool r2])∧Kd.R (Kd.int .i64) 3 w' w.heap.size (fun _=>True) v0_ r1∧Below w.heap.size w w':=by
 have HB:=m0 (Below.refl w.heap.size w);unfold Rf_numbers.f at H;replace H:=oa H;obtain⟨t431,A2,H⟩:=H;(try dsimp only at H);have H':=m0 H;clear H;go_enter Tryz.func34,Tryz.ntmps34
 go_wp2_with (first|((with_reducible refine gc 35 rfl ?_);refine gl (some 10) Tryz.func35 #[.string a0,.int .u8 32] ?_;(with_reducible refine(Bs_Cut.calls k a0 32 t431 _ A2.out).mono ?_);rintro e w3 ⟨v432,rfl,ho0,hb⟩;refine⟨_,rfl,?_⟩;have HO433:=m0 (Kd.R_lower ho0 (below_size bz));replace HB:=sb HB hb;(try clear hb);(try clear ho0)))
 go_loopg [4,6] k (fun kq v4 v6 w'=>∃ (x4_1:List Int) (x6_1:Int),v6= .int .i64 x6_1∧Aside0 (Rf_numbers.l0 kq x4_1 t431 x6_1=some (r1,r2))∧Aside0 (kq≤k)∧Aside0 (Kd.R (Kd.int .i64) 3 w' w.heap.size (fun _=>True) v4 x4_1)∧Aside0 (Kd.R Kd.string 9 w' w.heap.size (fun _=>True) v432 t431)∧Aside0 (Below w.heap.size w w'))
 case atStart=>exact⟨(([]:List Int)),(0),rz,H',⟨Nat.le_refl _⟩,⟨by first|exact Kd.R_nil _ _ _ _ _|exact Kd.N_nil _ _ _ _ _|exact Kd.V_nil _ _ _ _ _|exact Kd.Q_nil _ _ _ _ _|exact Kd.S_nil _ _ _ _ _⟩,⟨br HO433.out⟩,⟨bz⟩⟩
 case round=>
  clear H';obtain⟨x4_1,x6_1,rfl,HA,HK1,HO_4,HO_5,HB⟩:=hrel
  cases gk with
  |zero=>exact absurd HA.out (by simp[Rf_numbers.l0])
  | succ k1=>
   have H:=HA.out;clear HA;simp only[Rf_numbers.l0]at H
   by_cases c4:x6_1<(t431.length:Int)
   ·rw [if_pos c4]at H;have c4b0:=decide_eq_true c4;clear c4
    by_cases c5:0≤x6_1
    ·rw [if_pos c5]at H;have c5b0:=decide_eq_true c5;clear c5;replace H:=oa H;obtain⟨⟨t435,t436⟩,A6,H⟩:=H;(try dsimp only at H)
     by_cases c7:t436=true
     ·subst c7;rw[if_pos rfl]at H
      by_cases c8:t435<0
      ·rw [if_pos c8]at H;have c8b0:=decide_eq_true c8;clear c8;simp only[Option.some.injEq,Prod.mk.injEq]at H;obtain⟨rfl,rfl⟩:=H;obtain⟨Ao9,co9,eo9⟩:=Kd.R_slice HO_5.out;subst eo9;have p434:0≤(x6_1:Int):=od;have q434:x6_1<(t431.length:Int):=od;obtain⟨ad434,e434,hx434_0⟩:=Kd.at_string (Kd.R_reads' HO_5.out).2.2 x6_1 p434 q434
       cases e434
       replace p434:=eq_true p434;replace q434:=eq_true q434
       go_wp2_with (first|((with_reducible refine gc 66 rfl ?_);refine gl (some 22) Tryz.func66 #[.string (rdOf ByteArray.empty t431 x6_1),.int .i64 5] ?_;(with_reducible refine(Bs_Number.calls k1 (rdOf ByteArray.empty t431 x6_1) 5 t435 true _ A6.out).mono ?_);rintro e w' ⟨rfl,⟨nd,rfl⟩⟩;refine⟨_,rfl,?_⟩))
       go_ret2
       exact⟨_,e4,by first|exact Kd.R_nil _ _ _ _ _|exact Kd.N_nil _ _ _ _ _|exact Kd.V_nil _ _ _ _ _|exact Kd.Q_nil _ _ _ _ _|exact Kd.S_nil _ _ _ _ _,bz⟩
      ·rw [if_neg c8]at H;have c8b0:=decide_eq_false c8;clear c8
       by_cases c10:x4_1.length<17592186044416
       ·rw [if_pos c10]at H;have LMc10:=m0 c10;clear c10;obtain⟨y437,hy437⟩:∃ y_:List Int,y_=(x4_1++ [t435]):=⟨_,rfl⟩;replace H:(Rf_numbers.l0 k1 y437 t431 (wrap64 (x6_1+1)))=some (r1,r2):=hq hy437 H
        have Ny437:=m0 hy437;clear hy437;have H':=m0 H;clear H;obtain⟨Ao11,co11,eo11⟩:=Kd.R_slice HO_5.out;subst eo11;have p434:0≤(x6_1:Int):=od;have q434:x6_1<(t431.length:Int):=od;obtain⟨ad434,e434,hx434_0⟩:=Kd.at_string (Kd.R_reads' HO_5.out).2.2 x6_1 p434 q434
        cases e434
        replace p434:=eq_true p434;replace q434:=eq_true q434
        go_wp2_with (first|((with_reducible refine gc 66 rfl ?_);refine gl (some 22) Tryz.func66 #[.string (rdOf ByteArray.empty t431 x6_1),.int .i64 5] ?_;(with_reducible refine(Bs_Number.calls k1 (rdOf ByteArray.empty t431 x6_1) 5 t435 true _ A6.out).mono ?_);rintro e w' ⟨rfl,⟨nd,rfl⟩⟩;refine⟨_,rfl,?_⟩)|((with_reducible refine gate_builtin (b:= .append) (xs:= #[.tmp 31,.tmp 33]) rfl ?_);at_builtin;refine Kd.R_append (Kd.int .i64) (w0:=w) w.heap.size rfl (.tmp 31) (.tmp 33) 22 3 (.int .i64 0) 8 rfl Tryz.underlying22 info3 rfl (by decide) (by omega) u4 x4_1 t435 [.int .i64 t435] (fun _=>True) (fun _=>False) rfl rfl ?aP (fun _ hk=>hk.elim) ?aF ?aO ?aB ?aS ?aL ?_;(case aP=>exact rfl);(case aB=>exact bz);(case aF=>exact(fun _ _=>trivial));(case aO=>exact(br HO_4.out));(case aS=>exact(below_size bz));(case aL=>have:=LMc10.out;omega);intro v438 w12 ho hb hg hat;rw[← Ny437.out]at ho;have n0_:=m0 (Kd.R_over' (br HO_5.out) (Kd.R_typed (br HO_4.out)) (by decide) hg);have n1_:=m0 (hb);have n2_:=m0 (ho);clear HO_5 HB HO_4;have HO_5:=n0_;have HB:=n1_;have HO439:=n2_;clear n0_ n1_ n2_;clear ho hb hg hat))
        go_roundg k1
        case measure=>have:=HK1.out;omega
        case rel=>exact⟨(y437),(wrap64 (x6_1+1)),rz,H',⟨by have:=HK1.out;omega⟩,⟨br HO439.out⟩,⟨br HO_5.out⟩,⟨bz⟩⟩
       ·rw [if_neg c10]at H;exact absurd H (by simp)
     ·replace c7:=Bool.eq_false_iff.mpr c7;subst c7;rw[if_neg (show ¬ (false=true) by decide)]at H;simp only[Option.some.injEq,Prod.mk.injEq]at H;obtain⟨rfl,rfl⟩:=H;obtain⟨Ao13,co13,eo13⟩:=Kd.R_slice HO_5.out;subst eo13;have p434:0≤(x6_1:Int):=od;have q434:x6_1<(t431.length:Int):=od;obtain⟨ad434,e434,hx434_0⟩:=Kd.at_string (Kd.R_reads' HO_5.out).2.2 x6_1 p434 q434
      cases e434
      replace p434:=eq_true p434;replace q434:=eq_true q434
      go_wp2_with (first|((with_reducible refine gc 66 rfl ?_);refine gl (some 22) Tryz.func66 #[.string (rdOf ByteArray.empty t431 x6_1),.int .i64 5] ?_;(with_reducible refine(Bs_Number.calls k1 (rdOf ByteArray.empty t431 x6_1) 5 t435 false _ A6.out).mono ?_);rintro e w' ⟨rfl,⟨nd,rfl⟩⟩;refine⟨_,rfl,?_⟩))
      go_ret2
      exact⟨_,e4,by first|exact Kd.R_nil _ _ _ _ _|exact Kd.N_nil _ _ _ _ _|exact Kd.V_nil _ _ _ _ _|exact Kd.Q_nil _ _ _ _ _|exact Kd.S_nil _ _ _ _ _,bz⟩
    ·rw [if_neg c5]at H;exact absurd H (by simp)
   ·rw [if_neg c4]at H;have c4b0:=decide_eq_false c4;clear c4;simp only[Option.some.injEq,Prod.mk.injEq]at H;obtain⟨rfl,rfl⟩:=H;obtain⟨Ao14,co14,eo14⟩:=Kd.R_slice HO_5.out;subst eo14
    go_wp2
    go_ret2
    exact⟨_,e4,by(with_reducible repeat(first|apply Kd.R_alloc|apply Kd.R_drewN|apply Kd.R_drew));exact HO_4.out,bz⟩
end
section
def Rf_ParseProfile.f (k:Nat) (a0:ByteArray):Option (List Int×Int):=if(a0.size:Int)>60000 then(some (([]:List Int),8))else((Rf_numbers.f k a0).bind fun bt440=>(if bt440.2=true then((Rf_ProfileErr.f k bt440.1).bind fun t444=>(if t444=0 then(some (bt440.1,0))else(some (([]:List Int),t444))))else(some (([]:List Int),7))))
theorem Rf_ParseProfile.mono:∀ a0 k,LeO (Rf_ParseProfile.f k a0) (Rf_ParseProfile.f (k+1) a0):=by
 intro a0 k;unfold Rf_ParseProfile.f
 have m1:=@Rf_ProfileErr.mono;have m2:=@Rf_numbers.mono;exact lz
theorem Rf_ParseProfile.calls (k:Nat) (a0:ByteArray) (r1:List Int) (r2:Int) (w:World) (H:Rf_ParseProfile.f k a0=some (r1,r2)):
  Calls Tryz.prog 12 #[.string a0] w fun e w'=>∃ v0_:Value,e= .returned (.tuple #[v0_,.int .i64 r2])∧Kd.R (Kd.int .i64) 3 w' w.heap.size (fun _=>True) v0_ r1∧Below w.heap.size w w':=by
 have HB:=m0 (Below.refl w.heap.size w);unfold Rf_ParseProfile.f at H
 by_cases c2:(a0.size:Int)>60000
 ·rw [if_pos c2]at H;have c2b0:=decide_eq_true c2;have c2b1:decide (60000<a0.size)=true:=decide_eq_true (by omega);clear c2;simp only[Option.some.injEq,Prod.mk.injEq]at H;obtain⟨rfl,rfl⟩:=H;go_enter Tryz.func12,Tryz.ntmps12
  go_wp2
  go_ret2
  exact⟨_,e4,by first|exact Kd.R_nil _ _ _ _ _|exact Kd.N_nil _ _ _ _ _|exact Kd.V_nil _ _ _ _ _|exact Kd.Q_nil _ _ _ _ _|exact Kd.S_nil _ _ _ _ _,bz⟩
 ·rw [if_neg c2]at H;have c2b0:=decide_eq_false c2;have c2b1:decide (60000<a0.size)=false:=decide_eq_false (by omega);clear c2;replace H:=oa H;obtain⟨⟨t440,t441⟩,A3,H⟩:=H;(try dsimp only at H)
  by_cases c4:t441=true
  ·subst c4;rw[if_pos rfl]at H;replace H:=oa H;obtain⟨t444,A5,H⟩:=H;(try dsimp only at H)
   by_cases c6:t444=0
   ·rw [if_pos c6]at H;have c6b0:=beq_iff_eq.mpr c6;have c6b1:=bne_eq_false_iff_eq.mpr c6;clear c6;simp only[Option.some.injEq,Prod.mk.injEq]at H;obtain⟨rfl,rfl⟩:=H;go_enter Tryz.func12,Tryz.ntmps12
    go_wp2_with (first|((with_reducible refine gc 34 rfl ?_);refine gl (some 12) Tryz.func34 #[.string a0] ?_;(with_reducible refine(Rf_numbers.calls k a0 t440 true _ A3.out).mono ?_);rintro e w7 ⟨v442,rfl,ho0,hb⟩;refine⟨_,rfl,?_⟩;have HO443:=m0 (Kd.R_lower ho0 (below_size bz));replace HB:=sb HB hb;(try clear hb);(try clear ho0);obtain⟨Ao8,co8,eo8⟩:=Kd.R_slice HO443.out;subst eo8)|((with_reducible refine gc 18 rfl ?_);refine gl (some 18) Tryz.func18 #[.slice Ao8 t440.length co8] ?_;(with_reducible refine(Rf_ProfileErr.calls k _ _ t440 t444 _ ?side1 ?side2 A5.out).mono ?_);(case side1=>exact bc (Kd.R_reads' HO443.out).2.2);(case side2=>exact(Kd.R_reads' HO443.out).2.1);rintro e w' ⟨rfl,⟨nd,rfl⟩⟩;refine⟨_,rfl,?_⟩))
    go_ret2
    exact⟨_,e4,by(with_reducible repeat(first|apply Kd.R_alloc|apply Kd.R_drewN|apply Kd.R_drew));exact HO443.out,bz⟩
   ·rw [if_neg c6]at H;have c6b0:=beq_eq_false_iff_ne.mpr c6;have c6b1:=bne_iff_ne.mpr c6;simp only[Option.some.injEq,Prod.mk.injEq]at H;obtain⟨rfl,rfl⟩:=H;go_enter Tryz.func12,Tryz.ntmps12
    go_wp2_with (first|((with_reducible refine gc 34 rfl ?_);refine gl (some 12) Tryz.func34 #[.string a0] ?_;(with_reducible refine(Rf_numbers.calls k a0 t440 true _ A3.out).mono ?_);rintro e w9 ⟨v442,rfl,ho0,hb⟩;refine⟨_,rfl,?_⟩;have HO443:=m0 (Kd.R_lower ho0 (below_size bz));replace HB:=sb HB hb;(try clear hb);(try clear ho0);obtain⟨Ao10,co10,eo10⟩:=Kd.R_slice HO443.out;subst eo10)|((with_reducible refine gc 18 rfl ?_);refine gl (some 18) Tryz.func18 #[.slice Ao10 t440.length co10] ?_;(with_reducible refine(Rf_ProfileErr.calls k _ _ t440 t444 _ ?side1 ?side2 A5.out).mono ?_);(case side1=>exact bc (Kd.R_reads' HO443.out).2.2);(case side2=>exact(Kd.R_reads' HO443.out).2.1);rintro e w' ⟨rfl,⟨nd,rfl⟩⟩;refine⟨_,rfl,?_⟩))
    go_ret2
    exact⟨_,e4,by first|exact Kd.R_nil _ _ _ _ _|exact Kd.N_nil _ _ _ _ _|exact Kd.V_nil _ _ _ _ _|exact Kd.Q_nil _ _ _ _ _|exact Kd.S_nil _ _ _ _ _,bz⟩
  ·replace c4:=Bool.eq_false_iff.mpr c4;subst c4;rw[if_neg (show ¬ (false=true) by decide)]at H;simp only[Option.some.injEq,Prod.mk.injEq]at H;obtain⟨rfl,rfl⟩:=H;go_enter Tryz.func12,Tryz.ntmps12
   go_wp2_with (first|((with_reducible refine gc 34 rfl ?_);refine gl (some 12) Tryz.func34 #[.string a0] ?_;(with_reducible refine(Rf_numbers.calls k a0 t440 false _ A3.out).mono ?_);rintro e w11 ⟨v442,rfl,ho0,hb⟩;refine⟨_,rfl,?_⟩;have HO443:=m0 (Kd.R_lower ho0 (below_size bz));replace HB:=sb HB hb;(try clear hb);(try clear ho0)))
   go_ret2
   exact⟨_,e4,by first|exact Kd.R_nil _ _ _ _ _|exact Kd.N_nil _ _ _ _ _|exact Kd.V_nil _ _ _ _ _|exact Kd.Q_nil _ _ _ _ _|exact Kd.S_nil _ _ _ _ _,bz⟩
end
section
mutual
def Rf_CheckLayers.l0:Nat→List (S64)→Int→Option (Int×Int)
  |0,_,_=>none
  |k+1,x0,x4=>if x4<(x0.length:Int)then(if 0≤x4 then((Bs_Within.f ((rd_T64 x0 x4).f0) 0 20000).bind fun t446=>(if t446=true then((Bs_Within.f ((rd_T64 x0 x4).f1) 0 20000).bind fun t448=>(if t448=true then((Bs_Within.f ((rd_T64 x0 x4).f2) 0 8).bind fun t450=>(Rf_CheckLayers.j1 k x0 x4 (!t450)))else(Rf_CheckLayers.j1 k x0 x4 true)))else(Rf_CheckLayers.j1 k x0 x4 true)))else(none))else(some (0,0))
def Rf_CheckLayers.j1:Nat→List (S64)→Int→Bool→Option (Int×Int)
  |0,_,_,_=>none
  |k+1,x0,x4,x38=>if x38=true then(some (x4,2))else(if 0≤x4 then(if x4<(x0.length:Int)then(if((rd_T64 x0 x4).f0)≥((rd_T64 x0 x4).f1)then(some (x4,9))else(Rf_CheckLayers.l0 k x0 (wrap64 (x4+1))))else(none))else(none))
end
def Rf_CheckLayers.f (k:Nat) (l0:List (S64)):Option (Int×Int):=if(l0.length:Int)>10 then(some (0,8))else(Rf_CheckLayers.l0 k l0 0)
theorem Rf_CheckLayers.mono_l:∀ k,(∀ y0 y1,LeO (Rf_CheckLayers.l0 k y0 y1) (Rf_CheckLayers.l0 (k+1) y0 y1))∧(∀ y0 y1 y2,LeO (Rf_CheckLayers.j1 k y0 y1 y2) (Rf_CheckLayers.j1 (k+1) y0 y1 y2))
  |0=>⟨fun _ _ r h=>by simp[Rf_CheckLayers.l0]at h,fun _ _ _ r h=>by simp[Rf_CheckLayers.j1]at h⟩
  | k +1=>by
    obtain⟨ih0,ih1⟩:=Rf_CheckLayers.mono_l k;refine⟨?_,?_⟩
    · intro y0 y1;unfold Rf_CheckLayers.l0
      exact lz
    · intro y0 y1 y2;unfold Rf_CheckLayers.j1
      exact lz
theorem Rf_CheckLayers.mono:∀ a0 k,LeO (Rf_CheckLayers.f k a0) (Rf_CheckLayers.f (k+1) a0):=by
  intro a0 k;obtain⟨ih0,ih1⟩:=Rf_CheckLayers.mono_l k;unfold Rf_CheckLayers.f
  exact lz
theorem Rf_CheckLayers.calls (k:Nat) (A0:Option Addr) (c0:Nat) (l0:List (S64)) (r1:Int) (r2:Int) (w:World) (hr0:Kd.C k64 w A0 l0.length l0) (hc0:l0.length≤c0) (H:Rf_CheckLayers.f k l0=some (r1,r2)):
    Calls Tryz.prog 38 #[.slice A0 l0.length c0] w fun e w'=>e= .returned (.tuple #[.int .i64 r1,.int .i64 r2])∧Drawn0 w w':=by
  have HR0:=m0 hr0;have HC0:=m0 hc0;clear hr0 hc0;unfold Rf_CheckLayers.f at H
  by_cases c2:(l0.length:Int)>10
  · rw[if_pos c2]at H;have c2b0:=decide_eq_true c2;have c2b1:decide (10<l0.length)=true:=decide_eq_true (by omega);clear c2;simp only[Option.some.injEq,Prod.mk.injEq]at H;obtain⟨rfl,rfl⟩:=H;go_enter Tryz.func38,Tryz.ntmps38
    go_wp2
    repeat(go_quiet (fail);try go_wp2)
    go_ret2
    exact⟨rz,dz⟩
  · rw [if_neg c2] at H;have c2b0:=decide_eq_false c2;have c2b1:decide (10<l0.length)=false:=decide_eq_false (by omega);clear c2;have H':=m0 H;clear H;go_enter Tryz.func38,Tryz.ntmps38
    go_wp2
    repeat(go_quiet (fail);try go_wp2)
    go_loopg [4] k (fun kq v4 w'=>∃ (x4_1:Int),v4= .int .i64 x4_1∧Aside0 (Rf_CheckLayers.l0 kq l0 x4_1=some (r1,r2))∧Aside0 (kq≤k)∧Drawn0 w w')
    case atStart=>exact⟨(0),rz,H',⟨Nat.le_refl _⟩,dz⟩
    case round =>
      clear H';obtain⟨x4_1,rfl,HA,HK1,⟨m1,rfl⟩⟩:=hrel
      cases gk with
      |zero=>exact absurd HA.out (by simp[Rf_CheckLayers.l0])
      | succ k1 =>
        have H:=HA.out;clear HA;simp only[Rf_CheckLayers.l0]at H
        by_cases c3:x4_1<(l0.length:Int)
        · rw [if_pos c3]at H;have c3b0:=decide_eq_true c3;clear c3;have HC4:=m0 H;clear H
          go_upto_region 6 with (fail)
          repeat(go_quiet (fail);go_upto_region 6 with (fail))
          go_cut [38] (fun v38 wc=>∃ (kq:Nat) (x38_3:Bool),v38= .bool x38_3∧Aside0 (Rf_CheckLayers.j1 kq l0 x4_1 x38_3=some (r1,r2))∧Aside0 (kq≤k1)∧Drawn0 w wc)
          case first=>
            have H:=HC4.out;clear HC4
            by_cases c5:0≤x4_1
            · rw [if_pos c5]at H;have c5b0:=decide_eq_true c5;clear c5
              (first|rw[c5b0]|(simp only[i64_w,i32_w];rw[c5b0])|skip)
              replace H:=oa H;obtain⟨t446,A6,H⟩:=H;(try dsimp only at H)
              by_cases c7:t446=true
              · subst c7;rw[if_pos rfl]at H;replace H:=oa H;obtain⟨t448,A8,H⟩:=H;(try dsimp only at H)
                by_cases c9:t448=true
                · subst c9;rw[if_pos rfl]at H;replace H:=oa H;obtain⟨t450,A10,H⟩:=H;(try dsimp only at H);have H':=m0 H;clear H;have p445:0≤(x4_1:Int):=od;have q445:x4_1<(l0.length:Int):=od;obtain⟨ad445,e445,hx445_0,hx445_1,hx445_2⟩:=at_T64 HR0.out x4_1 p445 q445
                  cases e445
                  replace p445:=eq_true p445;replace q445:=eq_true q445
                  go_wp2_with (first|(go_at_call 68;(with_reducible refine(Bs_Within.calls ((rd_T64 l0 x4_1).f0) 0 20000 true _ A6.out).mono ?_);rintro e w' ⟨rfl,⟨nd,rfl⟩⟩;(try first|exact⟨rfl,_,World.drewN_drewN _ _ _⟩|exact⟨rfl,_,Eq.trans (World.drewN_drewN _ _ _) (congrArg (World.drewN _) (Nat.add_assoc _ _ _))⟩);have p447:0≤(x4_1:Int):=od;have q447:x4_1<(l0.length:Int):=od;obtain⟨ad447,e447,hx447_0,hx447_1,hx447_2⟩:=at_T64 HR0.out x4_1 p447 q447;obtain rfl:ad445=ad447:=(by injection e447);replace p447:=eq_true p447;replace q447:=eq_true q447)|(go_at_call 68;(with_reducible refine(Bs_Within.calls ((rd_T64 l0 x4_1).f1) 0 20000 true _ A8.out).mono ?_);rintro e w' ⟨rfl,⟨nd,rfl⟩⟩;(try first|exact⟨rfl,_,World.drewN_drewN _ _ _⟩|exact⟨rfl,_,Eq.trans (World.drewN_drewN _ _ _) (congrArg (World.drewN _) (Nat.add_assoc _ _ _))⟩);have p449:0≤(x4_1:Int):=od;have q449:x4_1<(l0.length:Int):=od;obtain⟨ad449,e449,hx449_0,hx449_1,hx449_2⟩:=at_T64 HR0.out x4_1 p449 q449;obtain rfl:ad445=ad449:=(by injection e449);replace p449:=eq_true p449;replace q449:=eq_true q449)|(go_at_call 68;(with_reducible refine(Bs_Within.calls ((rd_T64 l0 x4_1).f2) 0 8 t450 _ A10.out).mono ?_);rintro e w' ⟨rfl,⟨nd,rfl⟩⟩;(try first|exact⟨rfl,_,World.drewN_drewN _ _ _⟩|exact⟨rfl,_,Eq.trans (World.drewN_drewN _ _ _) (congrArg (World.drewN _) (Nat.add_assoc _ _ _))⟩)))
                  repeat(go_quiet (first|(go_at_call 68;(with_reducible refine(Bs_Within.calls ((rd_T64 l0 x4_1).f0) 0 20000 true _ A6.out).mono ?_);rintro e w' ⟨rfl,⟨nd,rfl⟩⟩;(try first|exact⟨rfl,_,World.drewN_drewN _ _ _⟩|exact⟨rfl,_,Eq.trans (World.drewN_drewN _ _ _) (congrArg (World.drewN _) (Nat.add_assoc _ _ _))⟩);have p447:0≤(x4_1:Int):=od;have q447:x4_1<(l0.length:Int):=od;obtain⟨ad447,e447,hx447_0,hx447_1,hx447_2⟩:=at_T64 HR0.out x4_1 p447 q447;obtain rfl:ad445=ad447:=(by injection e447);replace p447:=eq_true p447;replace q447:=eq_true q447)|(go_at_call 68;(with_reducible refine(Bs_Within.calls ((rd_T64 l0 x4_1).f1) 0 20000 true _ A8.out).mono ?_);rintro e w' ⟨rfl,⟨nd,rfl⟩⟩;(try first|exact⟨rfl,_,World.drewN_drewN _ _ _⟩|exact⟨rfl,_,Eq.trans (World.drewN_drewN _ _ _) (congrArg (World.drewN _) (Nat.add_assoc _ _ _))⟩);have p449:0≤(x4_1:Int):=od;have q449:x4_1<(l0.length:Int):=od;obtain⟨ad449,e449,hx449_0,hx449_1,hx449_2⟩:=at_T64 HR0.out x4_1 p449 q449;obtain rfl:ad445=ad449:=(by injection e449);replace p449:=eq_true p449;replace q449:=eq_true q449)|(go_at_call 68;(with_reducible refine(Bs_Within.calls ((rd_T64 l0 x4_1).f2) 0 8 t450 _ A10.out).mono ?_);rintro e w' ⟨rfl,⟨nd,rfl⟩⟩;(try first|exact⟨rfl,_,World.drewN_drewN _ _ _⟩|exact⟨rfl,_,Eq.trans (World.drewN_drewN _ _ _) (congrArg (World.drewN _) (Nat.add_assoc _ _ _))⟩)));try go_wp2_with (first|(go_at_call 68;(with_reducible refine(Bs_Within.calls ((rd_T64 l0 x4_1).f0) 0 20000 true _ A6.out).mono ?_);rintro e w' ⟨rfl,⟨nd,rfl⟩⟩;(try first|exact⟨rfl,_,World.drewN_drewN _ _ _⟩|exact⟨rfl,_,Eq.trans (World.drewN_drewN _ _ _) (congrArg (World.drewN _) (Nat.add_assoc _ _ _))⟩);have p447:0≤(x4_1:Int):=od;have q447:x4_1<(l0.length:Int):=od;obtain⟨ad447,e447,hx447_0,hx447_1,hx447_2⟩:=at_T64 HR0.out x4_1 p447 q447;obtain rfl:ad445=ad447:=(by injection e447);replace p447:=eq_true p447;replace q447:=eq_true q447)|(go_at_call 68;(with_reducible refine(Bs_Within.calls ((rd_T64 l0 x4_1).f1) 0 20000 true _ A8.out).mono ?_);rintro e w' ⟨rfl,⟨nd,rfl⟩⟩;(try first|exact⟨rfl,_,World.drewN_drewN _ _ _⟩|exact⟨rfl,_,Eq.trans (World.drewN_drewN _ _ _) (congrArg (World.drewN _) (Nat.add_assoc _ _ _))⟩);have p449:0≤(x4_1:Int):=od;have q449:x4_1<(l0.length:Int):=od;obtain⟨ad449,e449,hx449_0,hx449_1,hx449_2⟩:=at_T64 HR0.out x4_1 p449 q449;obtain rfl:ad445=ad449:=(by injection e449);replace p449:=eq_true p449;replace q449:=eq_true q449)|(go_at_call 68;(with_reducible refine(Bs_Within.calls ((rd_T64 l0 x4_1).f2) 0 8 t450 _ A10.out).mono ?_);rintro e w' ⟨rfl,⟨nd,rfl⟩⟩;(try first|exact⟨rfl,_,World.drewN_drewN _ _ _⟩|exact⟨rfl,_,Eq.trans (World.drewN_drewN _ _ _) (congrArg (World.drewN _) (Nat.add_assoc _ _ _))⟩))))
                  go_meet
                  case rel=>exact⟨_,(!t450),rz,H',⟨by have:=HK1.out;first|omega|exact Nat.le_refl _⟩,dz⟩
                · replace c9:=Bool.eq_false_iff.mpr c9;subst c9;rw[if_neg (show ¬ (false=true) by decide)]at H;have H':=m0 H;clear H;have p445:0≤(x4_1:Int):=od;have q445:x4_1<(l0.length:Int):=od;obtain⟨ad445,e445,hx445_0,hx445_1,hx445_2⟩:=at_T64 HR0.out x4_1 p445 q445
                  cases e445
                  replace p445:=eq_true p445;replace q445:=eq_true q445
                  go_wp2_with (first|(go_at_call 68;(with_reducible refine(Bs_Within.calls ((rd_T64 l0 x4_1).f0) 0 20000 true _ A6.out).mono ?_);rintro e w' ⟨rfl,⟨nd,rfl⟩⟩;(try first|exact⟨rfl,_,World.drewN_drewN _ _ _⟩|exact⟨rfl,_,Eq.trans (World.drewN_drewN _ _ _) (congrArg (World.drewN _) (Nat.add_assoc _ _ _))⟩);have p447:0≤(x4_1:Int):=od;have q447:x4_1<(l0.length:Int):=od;obtain⟨ad447,e447,hx447_0,hx447_1,hx447_2⟩:=at_T64 HR0.out x4_1 p447 q447;obtain rfl:ad445=ad447:=(by injection e447);replace p447:=eq_true p447;replace q447:=eq_true q447)|(go_at_call 68;(with_reducible refine(Bs_Within.calls ((rd_T64 l0 x4_1).f1) 0 20000 false _ A8.out).mono ?_);rintro e w' ⟨rfl,⟨nd,rfl⟩⟩;(try first|exact⟨rfl,_,World.drewN_drewN _ _ _⟩|exact⟨rfl,_,Eq.trans (World.drewN_drewN _ _ _) (congrArg (World.drewN _) (Nat.add_assoc _ _ _))⟩)))
                  repeat(go_quiet (first|(go_at_call 68;(with_reducible refine(Bs_Within.calls ((rd_T64 l0 x4_1).f0) 0 20000 true _ A6.out).mono ?_);rintro e w' ⟨rfl,⟨nd,rfl⟩⟩;(try first|exact⟨rfl,_,World.drewN_drewN _ _ _⟩|exact⟨rfl,_,Eq.trans (World.drewN_drewN _ _ _) (congrArg (World.drewN _) (Nat.add_assoc _ _ _))⟩);have p447:0≤(x4_1:Int):=od;have q447:x4_1<(l0.length:Int):=od;obtain⟨ad447,e447,hx447_0,hx447_1,hx447_2⟩:=at_T64 HR0.out x4_1 p447 q447;obtain rfl:ad445=ad447:=(by injection e447);replace p447:=eq_true p447;replace q447:=eq_true q447)|(go_at_call 68;(with_reducible refine(Bs_Within.calls ((rd_T64 l0 x4_1).f1) 0 20000 false _ A8.out).mono ?_);rintro e w' ⟨rfl,⟨nd,rfl⟩⟩;(try first|exact⟨rfl,_,World.drewN_drewN _ _ _⟩|exact⟨rfl,_,Eq.trans (World.drewN_drewN _ _ _) (congrArg (World.drewN _) (Nat.add_assoc _ _ _))⟩)));try go_wp2_with (first|(go_at_call 68;(with_reducible refine(Bs_Within.calls ((rd_T64 l0 x4_1).f0) 0 20000 true _ A6.out).mono ?_);rintro e w' ⟨rfl,⟨nd,rfl⟩⟩;(try first|exact⟨rfl,_,World.drewN_drewN _ _ _⟩|exact⟨rfl,_,Eq.trans (World.drewN_drewN _ _ _) (congrArg (World.drewN _) (Nat.add_assoc _ _ _))⟩);have p447:0≤(x4_1:Int):=od;have q447:x4_1<(l0.length:Int):=od;obtain⟨ad447,e447,hx447_0,hx447_1,hx447_2⟩:=at_T64 HR0.out x4_1 p447 q447;obtain rfl:ad445=ad447:=(by injection e447);replace p447:=eq_true p447;replace q447:=eq_true q447)|(go_at_call 68;(with_reducible refine(Bs_Within.calls ((rd_T64 l0 x4_1).f1) 0 20000 false _ A8.out).mono ?_);rintro e w' ⟨rfl,⟨nd,rfl⟩⟩;(try first|exact⟨rfl,_,World.drewN_drewN _ _ _⟩|exact⟨rfl,_,Eq.trans (World.drewN_drewN _ _ _) (congrArg (World.drewN _) (Nat.add_assoc _ _ _))⟩))))
                  go_meet
                  case rel=>exact⟨_,(true),rz,H',⟨by have:=HK1.out;first|omega|exact Nat.le_refl _⟩,dz⟩
              · replace c7:=Bool.eq_false_iff.mpr c7;subst c7;rw[if_neg (show ¬ (false=true) by decide)]at H;have H':=m0 H;clear H;have p445:0≤(x4_1:Int):=od;have q445:x4_1<(l0.length:Int):=od;obtain⟨ad445,e445,hx445_0,hx445_1,hx445_2⟩:=at_T64 HR0.out x4_1 p445 q445
                cases e445
                replace p445:=eq_true p445;replace q445:=eq_true q445
                go_wp2_with (first|(go_at_call 68;(with_reducible refine(Bs_Within.calls ((rd_T64 l0 x4_1).f0) 0 20000 false _ A6.out).mono ?_);rintro e w' ⟨rfl,⟨nd,rfl⟩⟩;(try first|exact⟨rfl,_,World.drewN_drewN _ _ _⟩|exact⟨rfl,_,Eq.trans (World.drewN_drewN _ _ _) (congrArg (World.drewN _) (Nat.add_assoc _ _ _))⟩)))
                repeat(go_quiet (first|(go_at_call 68;(with_reducible refine(Bs_Within.calls ((rd_T64 l0 x4_1).f0) 0 20000 false _ A6.out).mono ?_);rintro e w' ⟨rfl,⟨nd,rfl⟩⟩;(try first|exact⟨rfl,_,World.drewN_drewN _ _ _⟩|exact⟨rfl,_,Eq.trans (World.drewN_drewN _ _ _) (congrArg (World.drewN _) (Nat.add_assoc _ _ _))⟩)));try go_wp2_with (first|(go_at_call 68;(with_reducible refine(Bs_Within.calls ((rd_T64 l0 x4_1).f0) 0 20000 false _ A6.out).mono ?_);rintro e w' ⟨rfl,⟨nd,rfl⟩⟩;(try first|exact⟨rfl,_,World.drewN_drewN _ _ _⟩|exact⟨rfl,_,Eq.trans (World.drewN_drewN _ _ _) (congrArg (World.drewN _) (Nat.add_assoc _ _ _))⟩))))
                go_meet
                case rel=>exact⟨_,(true),rz,H',⟨by have:=HK1.out;first|omega|exact Nat.le_refl _⟩,dz⟩
            · rw[if_neg c5]at H;exact absurd H (by simp)
          case rest =>
            clear HC4
            try clear hx4
            try clear hx445_0
            try clear hx445_1
            try clear hx445_2
            try clear hx447_0
            try clear hx447_1
            try clear hx447_2
            try clear hx449_0
            try clear hx449_1
            try clear hx449_2
            obtain⟨kq,x38_3,rfl,HA,HJ3,⟨mc3,rfl⟩⟩:=hcut
            cases kq with
            |zero=>exact absurd HA.out (by simp[Rf_CheckLayers.j1])
            | succ kj3=>
              have H:=HA.out;clear HA;simp only[Rf_CheckLayers.j1]at H
              by_cases c11:x38_3=true
              · subst c11;rw[if_pos rfl]at H;simp only[Option.some.injEq,Prod.mk.injEq]at H;obtain⟨rfl,rfl⟩:=H
                go_wp2
                repeat(go_quiet (fail);try go_wp2)
                go_ret2
                exact⟨rz,dz⟩
              · replace c11:=Bool.eq_false_iff.mpr c11;subst c11;rw[if_neg (show ¬ (false=true) by decide)]at H
                by_cases c12:0≤x4_1
                · rw [if_pos c12]at H;have c12b0:=decide_eq_true c12;clear c12
                  by_cases c13:x4_1<(l0.length:Int)
                  · rw[if_pos c13]at H;have c13b0:=decide_eq_true c13;clear c13;have p451:0≤(x4_1:Int):=od;have q451:x4_1<(l0.length:Int):=od;obtain⟨ad451,e451,hx451_0,hx451_1,hx451_2⟩:=at_T64 HR0.out x4_1 p451 q451
                    cases e451
                    replace p451:=eq_true p451;replace q451:=eq_true q451;have p452:0≤(x4_1:Int):=od;have q452:x4_1<(l0.length:Int):=od;obtain⟨ad452,e452,hx452_0,hx452_1,hx452_2⟩:=at_T64 HR0.out x4_1 p452 q452;obtain rfl:ad451=ad452:=(by injection e452);replace p452:=eq_true p452;replace q452:=eq_true q452
                    by_cases c14:((rd_T64 l0 x4_1).f0)≥((rd_T64 l0 x4_1).f1)
                    · rw[if_pos c14]at H;have c14b0:=decide_eq_true c14;clear c14;simp only[Option.some.injEq,Prod.mk.injEq]at H;obtain⟨rfl,rfl⟩:=H
                      go_wp2
                      repeat(go_quiet (fail);try go_wp2)
                      go_ret2
                      exact⟨rz,dz⟩
                    · rw[if_neg c14]at H;have c14b0:=decide_eq_false c14;clear c14;have H':=m0 H;clear H
                      go_wp2
                      repeat(go_quiet (fail);try go_wp2)
                      go_roundg kj3
                      case measure=>have:=HK1.out;have:=HJ3.out;omega
                      case rel=>exact⟨(wrap64 (x4_1+1)),rz,H',⟨by have:=HK1.out;have:=HJ3.out;omega⟩,dz⟩
                  · rw[if_neg c13]at H;exact absurd H (by simp)
                · rw[if_neg c12]at H;exact absurd H (by simp)
        · rw[if_neg c3]at H;have c3b0:=decide_eq_false c3;clear c3;simp only[Option.some.injEq,Prod.mk.injEq]at H;obtain⟨rfl,rfl⟩:=H
          go_wp2
          repeat(go_quiet (fail);try go_wp2)
          go_ret2
          exact⟨rz,dz⟩
end
section
def Rf_LayersErr.f (k:Nat) (l0:List (S64)):Option (Int):=(Rf_CheckLayers.f k l0).bind fun bt453=>(some bt453.2)
theorem Rf_LayersErr.mono:∀ a0 k,LeO (Rf_LayersErr.f k a0) (Rf_LayersErr.f (k+1) a0):=by
 intro a0 k;unfold Rf_LayersErr.f
 have m1:=@Rf_CheckLayers.mono;exact lz
theorem Rf_LayersErr.calls (k:Nat) (A0:Option Addr) (c0:Nat) (l0:List (S64)) (r:Int) (w:World) (hr0:Kd.C k64 w A0 l0.length l0) (hc0:l0.length≤c0) (H:Rf_LayersErr.f k l0=some r):
  Calls Tryz.prog 19 #[.slice A0 l0.length c0] w fun e w'=>e= .returned (.int .i64 r)∧Drawn0 w w':=by
 have HR0:=m0 hr0;have HC0:=m0 hc0;clear hr0 hc0;unfold Rf_LayersErr.f at H;replace H:=oa H;obtain⟨⟨t453,t454⟩,A2,H⟩:=H;(try dsimp only at H);obtain rfl:=Option.some.inj H;go_enter Tryz.func19,Tryz.ntmps19
 go_wp2_with (first|((with_reducible refine gc 38 rfl ?_);refine gl (some 7) Tryz.func38 #[.slice A0 l0.length c0] ?_;(with_reducible refine(Rf_CheckLayers.calls k _ _ l0 t453 t454 _ ?side1 ?side2 A2.out).mono ?_);(case side1=>exact cd HR0.out);(case side2=>exact HC0.out);rintro e w' ⟨rfl,⟨nd,rfl⟩⟩;refine⟨_,rfl,?_⟩))
 go_ret
 exact⟨rz,dz⟩
end
section
def Rf_ParseLayers.l0:Nat→List (S64)→List ByteArray→Int→Option ((List (S64))×Int)
  |0,_,_,_=>none
  |k+1,x4,x5,x6=>if x6<(x5.length:Int)then(if 0≤x6 then((Rf_numbers.f k (rdOf ByteArray.empty x5 x6)).bind fun bt459=>(if bt459.2=true then(if(bt459.1.length:Int)=3 then(if 0<(bt459.1.length:Int)then(if 1<(bt459.1.length:Int)then(if 2<(bt459.1.length:Int)then(if x4.length<5864062014805 then(Rf_ParseLayers.l0 k (x4++ [(⟨rd bt459.1 0,rd bt459.1 1,rd bt459.1 2⟩:S64)]) x5 (wrap64 (x6+1)))else(none))else(none))else(none))else(none))else(some (([]:List (S64)),7)))else(some (([]:List (S64)),7))))else(none))else((Rf_LayersErr.f k x4).bind fun t469=>(if t469=0 then(some (x4,0))else(some (([]:List (S64)),t469))))
def Rf_ParseLayers.f (k:Nat) (a0:ByteArray):Option ((List (S64))×Int):=if(a0.size:Int)>60000 then(some (([]:List (S64)),8))else(if a0.toList=([]:List UInt8)then(some (([]:List (S64)),0))else((Bs_Cut.f k a0 59).bind fun t455=>(Rf_ParseLayers.l0 k ([]:List (S64)) t455 0)))
theorem Rf_ParseLayers.mono_l:∀ k,(∀ y0 y1 y2,LeO (Rf_ParseLayers.l0 k y0 y1 y2) (Rf_ParseLayers.l0 (k+1) y0 y1 y2))
  |0=>fun _ _ _ r h=>by simp[Rf_ParseLayers.l0]at h
  | k +1=>by
    have ih0:=Rf_ParseLayers.mono_l k
    · intro y0 y1 y2;unfold Rf_ParseLayers.l0
      have m1:=@Bs_Cut.mono;have m2:=@Rf_LayersErr.mono;have m3:=@Rf_numbers.mono;exact lz
theorem Rf_ParseLayers.mono:∀ a0 k,LeO (Rf_ParseLayers.f k a0) (Rf_ParseLayers.f (k+1) a0):=by
  intro a0 k;have ih0:=Rf_ParseLayers.mono_l k;unfold Rf_ParseLayers.f
  have m1:=@Bs_Cut.mono;have m2:=@Rf_LayersErr.mono;have m3:=@Rf_numbers.mono;exact lz
def Rf_ParseLayers.T13:Bool×List (List Nat×List Nat):=(true,[([],[]),([],[]),([1],[1]),([2],[2]),([],[]),([4],[4]),([5],[5]),([],[]),([7],[7]),([8],[8]),([3,6,9],[3,6,9]),([10],[10]),([0,11],[0,11]),([12,12,0,1,2,3,4,5,6,7,8,9,10,11,12],[0,12])])
def Rf_ParseLayers.B13:List Nat:=[0,0,2,6,0,16,48,0,128,384,1022,2046,4095,8191]
theorem Rf_ParseLayers.tab13:rtab .any (opsOf Tryz.f13 13)=Rf_ParseLayers.T13:=by kernel_rfl
theorem Rf_ParseLayers.bits13:waitsOk Rf_ParseLayers.T13.2 Rf_ParseLayers.B13=true:=by kernel_rfl
theorem Rf_ParseLayers.calls (k:Nat) (a0:ByteArray) (r1:List (S64)) (r2:Int) (w:World) (H:Rf_ParseLayers.f k a0=some (r1,r2)):
    Calls Tryz.prog 13 #[.string a0] w fun e w'=>∃ v0_:Value,e= .returned (.tuple #[v0_,.int .i64 r2])∧Kd.R k64 64 w' w.heap.size (fun _=>True) v0_ r1∧Below w.heap.size w w':=by
  have hu64:=Tryz.underlying64;have HB:=m0 (Below.refl w.heap.size w);unfold Rf_ParseLayers.f at H
  by_cases c2:(a0.size:Int)>60000
  · rw[if_pos c2]at H;have c2b0:=decide_eq_true c2;have c2b1:decide (60000<a0.size)=true:=decide_eq_true (by omega);clear c2;simp only[Option.some.injEq,Prod.mk.injEq]at H;obtain⟨rfl,rfl⟩:=H;go_enter Tryz.func13,Tryz.ntmps13
    go_wp2
    go_ret2
    exact⟨_,e4,by first|exact Kd.R_nil _ _ _ _ _|exact Kd.N_nil _ _ _ _ _|exact Kd.V_nil _ _ _ _ _|exact Kd.Q_nil _ _ _ _ _|exact Kd.S_nil _ _ _ _ _,bz⟩
  · rw [if_neg c2] at H; have c2b0:=decide_eq_false c2;have c2b1:decide (60000<a0.size)=false:=decide_eq_false (by omega);clear c2
    by_cases c3:a0.toList=([]:List UInt8)
    · rw[if_pos c3]at H;have c3b0:=beq_iff_eq.mpr c3;have c3b1:=bne_eq_false_iff_eq.mpr c3;clear c3;simp only[Option.some.injEq,Prod.mk.injEq]at H;obtain⟨rfl,rfl⟩:=H;go_enter Tryz.func13,Tryz.ntmps13
      go_wp2
      go_ret2
      exact⟨_,e4,by first|exact Kd.R_nil _ _ _ _ _|exact Kd.N_nil _ _ _ _ _|exact Kd.V_nil _ _ _ _ _|exact Kd.Q_nil _ _ _ _ _|exact Kd.S_nil _ _ _ _ _,bz⟩
    · rw [if_neg c3] at H; have c3b0:=beq_eq_false_iff_ne.mpr c3;have c3b1:=bne_iff_ne.mpr c3;replace H:=oa H;obtain⟨t455,A4,H⟩:=H;(try dsimp only at H);have H':=m0 H;clear H;go_enter Tryz.func13,Tryz.ntmps13
      go_wp2_with (first|((with_reducible refine gc 35 rfl ?_);refine gl (some 16) Tryz.func35 #[.string a0,.int .u8 59] ?_;(with_reducible refine(Bs_Cut.calls k a0 59 t455 _ A4.out).mono ?_);rintro e w5 ⟨v456,rfl,ho0,hb⟩;refine⟨_,rfl,?_⟩;have HO457:=m0 (Kd.R_lower ho0 (below_size bz));replace HB:=sb HB hb;(try clear hb);(try clear ho0)))
      go_loopg [4,6] k (fun kq v4 v6 w'=>∃ (x4_1:List (S64)) (x6_1:Int),v6= .int .i64 x6_1∧Aside0 (Rf_ParseLayers.l0 kq x4_1 t455 x6_1=some (r1,r2))∧Aside0 (kq≤k)∧Aside0 (Kd.R k64 64 w' w.heap.size (fun _=>True) v4 x4_1)∧Aside0 (Kd.R Kd.string 9 w' w.heap.size (fun _=>True) v456 t455)∧Aside0 (Below w.heap.size w w'))
      case atStart=>exact⟨(([]:List (S64))),(0),rz,H',⟨Nat.le_refl _⟩,⟨by first|exact Kd.R_nil _ _ _ _ _|exact Kd.N_nil _ _ _ _ _|exact Kd.V_nil _ _ _ _ _|exact Kd.Q_nil _ _ _ _ _|exact Kd.S_nil _ _ _ _ _⟩,⟨br HO457.out⟩,⟨bz⟩⟩
      case round =>
        clear H';obtain⟨x4_1,x6_1,rfl,HA,HK1,HO_4,HO_5,HB⟩:=hrel
        cases gk with
        |zero=>exact absurd HA.out (by simp[Rf_ParseLayers.l0])
        | succ k1 =>
          have H:=HA.out;clear HA;simp only[Rf_ParseLayers.l0]at H
          by_cases c6:x6_1<(t455.length:Int)
          · rw [if_pos c6] at H;have c6b0:=decide_eq_true c6;clear c6
            by_cases c7:0≤x6_1
            · rw [if_pos c7]at H;have c7b0:=decide_eq_true c7;clear c7;replace H:=oa H;obtain⟨⟨t459,t460⟩,A8,H⟩:=H;(try dsimp only at H)
              by_cases c9:t460=true
              · subst c9; rw[if_pos rfl]at H
                by_cases c10:(t459.length:Int)=3
                · rw [if_pos c10]at H;have c10b0:=beq_iff_eq.mpr c10;have c10b1:=bne_eq_false_iff_eq.mpr c10;clear c10
                  by_cases c11:0<(t459.length:Int)
                  · rw [if_pos c11]at H;have c11b0:=decide_eq_true c11;have c11b1:decide (0<t459.length)=true:=decide_eq_true (by omega);clear c11
                    by_cases c12:1<(t459.length:Int)
                    · rw [if_pos c12]at H;have c12b0:=decide_eq_true c12;have c12b1:decide (1<t459.length)=true:=decide_eq_true (by omega);clear c12
                      by_cases c13:2<(t459.length:Int)
                      · rw [if_pos c13]at H;have c13b0:=decide_eq_true c13;have c13b1:decide (2<t459.length)=true:=decide_eq_true (by omega);clear c13
                        by_cases c14:x4_1.length<5864062014805
                        · rw[if_pos c14]at H;have LMc14:=m0 c14;clear c14;obtain⟨y466,hy466⟩:∃ y_:List (S64),y_=(x4_1++ [(⟨rd t459 0,rd t459 1,rd t459 2⟩:S64)]):=⟨_,rfl⟩;replace H:(Rf_ParseLayers.l0 k1 y466 t455 (wrap64 (x6_1+1)))=some (r1,r2):=hq hy466 H
                          have Ny466:=m0 hy466;clear hy466;have H':=m0 H;clear H;obtain⟨Ao15,co15,eo15⟩:=Kd.R_slice HO_5.out;subst eo15;have p458:0≤(x6_1:Int):=od;have q458:x6_1<(t455.length:Int):=od;obtain⟨ad458,e458,hx458_0⟩:=Kd.at_string (Kd.R_reads' HO_5.out).2.2 x6_1 p458 q458
                          cases e458
                          replace p458:=eq_true p458;replace q458:=eq_true q458
                          try go_wp2_with (first|((with_reducible refine gc 34 rfl ?_);refine gl (some 28) Tryz.func34 #[.string (rdOf ByteArray.empty t455 x6_1)] ?_;(with_reducible refine(Rf_numbers.calls k1 (rdOf ByteArray.empty t455 x6_1) t459 true _ A8.out).mono ?_);rintro e w16 ⟨v461,rfl,ho0,hb⟩;refine⟨_,rfl,?_⟩;replace HO_4:=rb HO_4 hb;replace HO_5:=rb HO_5 hb;have HO462:=m0 (Kd.R_lower ho0 (below_size bz));replace HB:=sb HB hb;(try clear hb);(try clear ho0);obtain⟨Ao17,co17,eo17⟩:=Kd.R_slice HO462.out;subst eo17))
                          replace HO_4:=m0 (Kd.R_drew HO_4.out);replace HO_5:=m0 (Kd.R_drew HO_5.out);replace HO462:=m0 (Kd.R_drew HO462.out);replace HB:=sd HB;have p463:0≤(0:Int):=(by omega);have q463:0<(t459.length:Int):=od;obtain⟨ad463,e463,hx463_0⟩:=Kd.at_int (Kd.R_reads' HO462.out).2.2 0 p463 q463
                          cases e463
                          have qi463:(0<t459.length)=True:=eq_true (by omega);(try rw[show ((0:Int)).toNat=0 from rfl]at hx463_0);(try rw[Addr.add_zero']at hx463_0);replace p463:=eq_true p463;replace q463:=eq_true q463;have p464:0≤(1:Int):=(by omega);have q464:1<(t459.length:Int):=od;obtain⟨ad464,e464,hx464_0⟩:=Kd.at_int (Kd.R_reads' HO462.out).2.2 1 p464 q464;obtain rfl:ad463=ad464:=(by injection e464);(try simp only[show (1:Int).toNat=1 from rfl,Nat.reduceMul,Nat.reduceEqDiff,Go.Addr.add,↓reduceIte]at hx464_0);have qi464:(1<t459.length)=True:=eq_true (by omega);(try rw[show ((1:Int)).toNat=1 from rfl]at hx464_0);replace p464:=eq_true p464;replace q464:=eq_true q464;have p465:0≤(2:Int):=(by omega);have q465:2<(t459.length:Int):=od;obtain⟨ad465,e465,hx465_0⟩:=Kd.at_int (Kd.R_reads' HO462.out).2.2 2 p465 q465;obtain rfl:ad463=ad465:=(by injection e465);(try simp only[show (2:Int).toNat=2 from rfl,Nat.reduceMul,Nat.reduceEqDiff,Go.Addr.add,↓reduceIte]at hx465_0);have qi465:(2<t459.length)=True:=eq_true (by omega);(try rw[show ((2:Int)).toNat=2 from rfl]at hx465_0);replace p465:=eq_true p465;replace q465:=eq_true q465;refine start_ (n:=14) (S:=fun w'=>w'.cell? ad463=some (.int .i64 (rd t459 0))∧w'.cell? ⟨ad463.block,ad463.off+1,none⟩=some (.int .i64 (rd t459 1))∧w'.cell? ⟨ad463.block,ad463.off+2,none⟩=some (.int .i64 (rd t459 2))) (ds:=[11,12]) _ (by kernel_rfl) rfl rfl ⟨hx463_0,hx464_0,hx465_0⟩ (fun hH=>?_);refine with_tabW Rf_ParseLayers.tab13 Rf_ParseLayers.bits13 (fun HT_ HW_=>?_);generalize w16.drew=w18 at HO_4 HO_5 HO462 HB hx463_0 hx464_0 hx465_0 hH ⊢;refine pZ 0 (some 38) (bs 14 1) HT_ ?_;refine pZ 1 (some 39) (bs 14 3) HT_ ?_;refine pZ 2 (some 40) (bs 14 7) HT_ ?_;refine pZ 4 (some 42) (bs 14 23) HT_ ?_;refine pZ 5 (some 43) (bs 14 55) HT_ ?_;refine pZ 7 (some 45) (bs 14 183) HT_ ?_;refine pZ 8 (some 46) (bs 14 439) HT_ ?_;refine takeZ 3 (some 41) (bs 14 447) (tw HT_ HW_) hH ?_;refine takeZ 6 (some 44) (bs 14 511) (tw HT_ HW_) hH ?_;refine takeZ 9 (some 47) (bs 14 1023) (tw HT_ HW_) hH ?_;refine pZ 10 (some 48) (bs 14 2047) HT_ ?_;refine last_ (i:=11) (N:=some 49) (bs 14 4095) rfl rfl (o1 HT_) (by decide) (fun K hK=>?_);refine value_ (w1:=?_) (v:=?_) (by rfl) rfl ?_ ?_;rotate_left 2
                          · go_simp
                            constructor
                            · rfl
                            · rfl
                          refine hK.out _ _ ?_;clear hK K;refine nz 49 ?_;refine last_ (i:=12) (N:=some 50) (bs 14 8191) rfl rfl (o1 HT_) (by decide) (fun K hK=>?_);refine Kd.R_append_step k64 (w0:=w) w.heap.size (by rfl) (.tmp 38) (.tmp 49) 23 64 (.agg #[(.int .i64 0),(.int .i64 0),(.int .i64 0)]) 24 rfl Tryz.underlying23 info64 rfl (by decide) (by omega) u4 x4_1 (⟨rd t459 0,rd t459 1,rd t459 2⟩:S64) [.int .i64 (rd t459 0),.int .i64 (rd t459 1),.int .i64 (rd t459 2)] (fun _=>True) (fun _=>False) rfl rfl ?aP (fun _ hk=>hk.elim) ?aF ?aO ?aB ?aS ?aL ?_
                          (case aP=>exact k64_mkM _ _ _ (⟨rd t459 0,rd t459 1,rd t459 2⟩:S64))
                          (case aB=>exact bz)
                          (case aF=>exact(fun _ _=>trivial))
                          (case aO=>exact(br HO_4.out))
                          (case aS=>exact(below_size bz))
                          (case aL=>have:=LMc14.out;omega)
                          intro v467 w19 ho hb hg hat;rw[← Ny466.out]at ho;have n0_:=m0 (Kd.R_over' (br HO_5.out) (Kd.R_typed (br HO_4.out)) (by decide) hg);have n1_:=m0 (Kd.R_over' (br HO462.out) (Kd.R_typed (br HO_4.out)) (by decide) hg);have n2_:=m0 (hb);have n3_:=m0 (ho);clear HO_5 HO462 HB HO_4;have HO_5:=n0_;have HO462:=n1_;have HB:=n2_;have HO468:=n3_;clear n0_ n1_ n2_ n3_;clear ho hb hg hat;refine hK.out _ _ ?_;clear hK K;refine nz 50 ?_;refine pZ 13 (some 4) (bs 14 16383) HT_ ?_;refine done_ (done_of HT_.out (by kernel_rfl)) ?_
                          try go_wp2
                          go_roundg k1
                          case measure=>have:=HK1.out;omega
                          case rel=>exact⟨(y466),(wrap64 (x6_1+1)),rz,H',⟨by have:=HK1.out;omega⟩,⟨br HO468.out⟩,⟨br HO_5.out⟩,⟨bz⟩⟩
                        · rw[if_neg c14]at H;exact absurd H (by simp)
                      · rw[if_neg c13]at H;exact absurd H (by simp)
                    · rw[if_neg c12]at H;exact absurd H (by simp)
                  · rw[if_neg c11]at H;exact absurd H (by simp)
                · rw[if_neg c10]at H;have c10b0:=beq_eq_false_iff_ne.mpr c10;have c10b1:=bne_iff_ne.mpr c10;simp only[Option.some.injEq,Prod.mk.injEq]at H;obtain⟨rfl,rfl⟩:=H;obtain⟨Ao20,co20,eo20⟩:=Kd.R_slice HO_5.out;subst eo20;have p458:0≤(x6_1:Int):=od;have q458:x6_1<(t455.length:Int):=od;obtain⟨ad458,e458,hx458_0⟩:=Kd.at_string (Kd.R_reads' HO_5.out).2.2 x6_1 p458 q458
                  cases e458
                  replace p458:=eq_true p458;replace q458:=eq_true q458
                  go_wp2_with (first|((with_reducible refine gc 34 rfl ?_);refine gl (some 28) Tryz.func34 #[.string (rdOf ByteArray.empty t455 x6_1)] ?_;(with_reducible refine(Rf_numbers.calls k1 (rdOf ByteArray.empty t455 x6_1) t459 true _ A8.out).mono ?_);rintro e w21 ⟨v461,rfl,ho0,hb⟩;refine⟨_,rfl,?_⟩;replace HO_4:=rb HO_4 hb;replace HO_5:=rb HO_5 hb;have HO462:=m0 (Kd.R_lower ho0 (below_size bz));replace HB:=sb HB hb;(try clear hb);(try clear ho0);obtain⟨Ao22,co22,eo22⟩:=Kd.R_slice HO462.out;subst eo22))
                  go_ret2
                  exact⟨_,e4,by first|exact Kd.R_nil _ _ _ _ _|exact Kd.N_nil _ _ _ _ _|exact Kd.V_nil _ _ _ _ _|exact Kd.Q_nil _ _ _ _ _|exact Kd.S_nil _ _ _ _ _,bz⟩
              · replace c9:=Bool.eq_false_iff.mpr c9;subst c9;rw[if_neg (show ¬ (false=true) by decide)]at H;simp only[Option.some.injEq,Prod.mk.injEq]at H;obtain⟨rfl,rfl⟩:=H;obtain⟨Ao23,co23,eo23⟩:=Kd.R_slice HO_5.out;subst eo23;have p458:0≤(x6_1:Int):=od;have q458:x6_1<(t455.length:Int):=od;obtain⟨ad458,e458,hx458_0⟩:=Kd.at_string (Kd.R_reads' HO_5.out).2.2 x6_1 p458 q458
                cases e458
                replace p458:=eq_true p458;replace q458:=eq_true q458
                go_wp2_with (first|((with_reducible refine gc 34 rfl ?_);refine gl (some 28) Tryz.func34 #[.string (rdOf ByteArray.empty t455 x6_1)] ?_;(with_reducible refine(Rf_numbers.calls k1 (rdOf ByteArray.empty t455 x6_1) t459 false _ A8.out).mono ?_);rintro e w24 ⟨v461,rfl,ho0,hb⟩;refine⟨_,rfl,?_⟩;replace HO_4:=rb HO_4 hb;replace HO_5:=rb HO_5 hb;have HO462:=m0 (Kd.R_lower ho0 (below_size bz));replace HB:=sb HB hb;(try clear hb);(try clear ho0)))
                go_ret2
                exact⟨_,e4,by first|exact Kd.R_nil _ _ _ _ _|exact Kd.N_nil _ _ _ _ _|exact Kd.V_nil _ _ _ _ _|exact Kd.Q_nil _ _ _ _ _|exact Kd.S_nil _ _ _ _ _,bz⟩
            · rw[if_neg c7]at H;exact absurd H (by simp)
          · rw[if_neg c6]at H;have c6b0:=decide_eq_false c6;clear c6;replace H:=oa H;obtain⟨t469,A25,H⟩:=H;(try dsimp only at H);obtain⟨Ao27,co27,eo27⟩:=Kd.R_slice HO_5.out;subst eo27;obtain⟨Ao28,co28,eo28⟩:=Kd.R_slice HO_4.out;subst eo28
            by_cases c26:t469=0
            · rw[if_pos c26]at H;have c26b0:=beq_iff_eq.mpr c26;have c26b1:=bne_eq_false_iff_eq.mpr c26;clear c26;simp only[Option.some.injEq,Prod.mk.injEq]at H;obtain⟨rfl,rfl⟩:=H
              go_wp2_with (first|((with_reducible refine gc 19 rfl ?_);refine gl (some 52) Tryz.func19 #[.slice Ao28 x4_1.length co28] ?_;(with_reducible refine(Rf_LayersErr.calls k1 _ _ x4_1 t469 _ ?side1 ?side2 A25.out).mono ?_);(case side1=>exact bc (Kd.R_reads' HO_4.out).2.2);(case side2=>exact(Kd.R_reads' HO_4.out).2.1);rintro e w' ⟨rfl,⟨nd,rfl⟩⟩;refine⟨_,rfl,?_⟩))
              go_ret2
              exact⟨_,e4,by(with_reducible repeat(first|apply Kd.R_alloc|apply Kd.R_drewN|apply Kd.R_drew));exact HO_4.out,bz⟩
            · rw[if_neg c26]at H;have c26b0:=beq_eq_false_iff_ne.mpr c26;have c26b1:=bne_iff_ne.mpr c26;simp only[Option.some.injEq,Prod.mk.injEq]at H;obtain⟨rfl,rfl⟩:=H
              go_wp2_with (first|((with_reducible refine gc 19 rfl ?_);refine gl (some 52) Tryz.func19 #[.slice Ao28 x4_1.length co28] ?_;(with_reducible refine(Rf_LayersErr.calls k1 _ _ x4_1 t469 _ ?side1 ?side2 A25.out).mono ?_);(case side1=>exact bc (Kd.R_reads' HO_4.out).2.2);(case side2=>exact(Kd.R_reads' HO_4.out).2.1);rintro e w' ⟨rfl,⟨nd,rfl⟩⟩;refine⟨_,rfl,?_⟩))
              go_ret2
              exact⟨_,e4,by first|exact Kd.R_nil _ _ _ _ _|exact Kd.N_nil _ _ _ _ _|exact Kd.V_nil _ _ _ _ _|exact Kd.Q_nil _ _ _ _ _|exact Kd.S_nil _ _ _ _ _,bz⟩
end
section
def Bs_Size.f (a0:Int):Option (Int):=some (mx a0 (wrap64 (-a0)))
theorem Bs_Size.calls (a0:Int) (r:Int) (w:World) (H:Bs_Size.f a0=some r):
  Calls Tryz.prog 92 #[.int .i64 a0] w fun e w'=>e= .returned (.int .i64 r)∧Below w.heap.size w w':=by
 have HB:=m0 (Below.refl w.heap.size w);unfold Bs_Size.f at H;obtain⟨ji2,hji2⟩:∃ j_:Int,(mx a0 (wrap64 (-a0)))=j_:=⟨_,rfl⟩;replace H:(some ji2)=some r:=by first|(rw[hji2]at H;exact H)|(simp only[hji2]at H ⊢;exact H)
 have hji2_:(if a0<(wrap64 (-a0))then(wrap64 (-a0))else a0)=ji2:=hji2;obtain rfl:=Option.some.inj H;go_enter Tryz.func92,Tryz.ntmps92
 go_wp2
 go_ret
 exact⟨by first|rfl|(simp[errW_none,errW_some]<;>rfl)|(simp only[← hji2];first|rfl|(simp[errW_none,errW_some]<;>rfl))|(simp[*,errW_none,errW_some]<;>rfl),bz⟩
end
end Go.Proofs.YteiafijbgjgiaaaGreatDoor.A
