/- Walks of the program's functions (printed, made shorter), each with what it computes. -/
import Derived.Test.YteiafijbgjgiaaaGreatDoorS07
import Derived.LoopIn
import Derived.LoopNIn
import Derived.OwnWalkIn
import Derived.RangeFuncBound
import Derived.RangeFuncBox
import Derived.RangeFuncCalls
import Derived.RangeFuncFrom
import Derived.RangeFuncLeaves
import Derived.RangeFuncNested
import Derived.Shelf.Abstract
import Derived.TacticsInMore
namespace Go.Proofs.YteiafijbgjgiaaaGreatDoor.A
set_option maxHeartbeats 8000000
set_option maxRecDepth 100000
open Go.RowKit Go.Proofs.YteiafijbgjgiaaaGreatDoorW.PrintWords Go.Proofs.YteiafijbgjgiaaaGreatDoorW.PrintLast Go.Proofs.YteiafijbgjgiaaaGreatDoorW.PrintMore
attribute [local go_sem] max2_int min2_int max_two min_two max_three min_three max_four min_four
set_option linter.unusedVariables false
set_option linter.unusedSimpArgs false
section
def L_fraction.f (k:Nat) (a0:Int) (a1:Int):Option (Int×Int):=(L_divisor.f k a0 a1).bind fun t124=>(if t124=0 then(none)else(some (wrap64 (Int.tdiv a0 t124),wrap64 (Int.tdiv a1 t124))))
theorem L_fraction.mono:∀ a0 a1 k,LeO (L_fraction.f k a0 a1) (L_fraction.f (k+1) a0 a1):=by
 intro a0 a1 k;unfold L_fraction.f
 have m1:=@L_divisor.mono;exact lz
def L_fraction.T2:Bool×List (List Nat×List Nat):=(true,[([],[]),([],[]),([0,1],[0,1]),([],[]),([],[]),([3,4],[3,4]),([2,5],[2,5]),([6,0,1,2,3,4,5,6],[6])])
def L_fraction.B2:List Nat:=[0,0,3,0,0,24,63,127]
theorem L_fraction.tab2:rtab .any (opsOf Tryz.f71 2)=L_fraction.T2:=by kernel_rfl
theorem L_fraction.bits2:waitsOk L_fraction.T2.2 L_fraction.B2=true:=by kernel_rfl
theorem L_fraction.calls (k:Nat) (a0:Int) (a1:Int) (r1:Int) (r2:Int) (w:World) (H:L_fraction.f k a0 a1=some (r1,r2)):
  Calls Tryz.prog 71 #[.int .i64 a0,.int .i64 a1] w fun e w'=>e= .returned (.agg #[.int .i64 r1,.int .i64 r2])∧Below w.heap.size w w':=by
 have hu60:=Tryz.underlying60;have HB:=m0 (Below.refl w.heap.size w);unfold L_fraction.f at H;replace H:=oa H;obtain⟨t124,A3,H⟩:=H;(try dsimp only at H)
 by_cases c4:t124=0
 ·rw [if_pos c4]at H;exact absurd H (by simp)
 ·rw [if_neg c4]at H;have c4b0:=beq_eq_false_iff_ne.mpr c4;have c4b1:=bne_iff_ne.mpr c4;simp only[Option.some.injEq,Prod.mk.injEq]at H;obtain⟨rfl,rfl⟩:=H;go_enter Tryz.func71,Tryz.ntmps71
  try go_wp2_with (first|((with_reducible refine ga 4 rfl ?_);refine be 4 60 #[.int .i64 0,.int .i64 0] ?_;intro gb123 hg w5 hbox hb;have BK123:=m0 hbox;have GE123:=gw w hg;replace HB:=sb HB hb;clear hb hbox hg)|((with_reducible refine gc 93 rfl ?_);refine gl (some 8) Tryz.func93 #[.int .i64 a0,.int .i64 a1] ?_;(with_reducible refine(L_divisor.calls k a0 a1 t124 _ A3.out).mono ?_);rintro e w6 ⟨rfl,hb⟩;refine⟨_,rfl,?_⟩;replace BK123:=bb BK123 hb;replace HB:=sb HB hb;(try clear hb)))
  replace BK123:=bd BK123;replace HB:=sd HB;refine start_ (n:=8) (S:=fun w'=>True) (ds:=[]) _ (by kernel_rfl) rfl rfl trivial (fun hH=>?_);refine with_tabW L_fraction.tab2 L_fraction.bits2 (fun HT_ HW_=>?_);generalize w6.drew=w7 at BK123 HB hH ⊢;refine pZ 0 (some 9) (bs 8 1) HT_ ?_;refine pZ 1 (some 10) (bs 8 3) HT_ ?_;refine pZ 2 (some 11) (bs 8 7) HT_ ?_;refine pZ 3 (some 12) (bs 8 15) HT_ ?_;refine pZ 4 (some 13) (bs 8 31) HT_ ?_;refine pZ 5 (some 14) (bs 8 63) HT_ ?_;refine pZ 6 (some 15) (bs 8 127) HT_ ?_;refine oneZ 7 (none) (bs 8 255) (o1 HT_) fun K hK=>?_;obtain⟨hs8,hfs8⟩:=q0 BK123;obtain⟨hs9,hfs9⟩:=q1 BK123;refine skip_ (w1:=?_) (by rfl) rfl ?_ ?_;rotate_left
  ·go_simp
   rfl
  refine hK.out _ _ trivial (fun hH=>?_);clear hK K;refine done_ (done_of HT_.out (by kernel_rfl)) ?_
  try go_wp2
  refine bodyPost_ret (results_cell_row rfl _ _ gb123 60 #[.int .i64 (wrap64 (Int.tdiv a0 t124)),.int .i64 (wrap64 (Int.tdiv a1 t124))] (0,0) _ rfl (bq BK123.out) Tryz.underlying60 rfl (by kernel_rfl)) rfl ?_;exact ez
end
section
def L_profile_shares.l0:Nat→List (S60)→Int→List Int→Int→Int→Option ((List (S60))×Int)
 |0,_,_,_,_,_=>none
 |k+1,x6,x7,x15,x16,x17=>if x17<x16 then(if 0≤x17 then(if x17<(x15.length:Int)then(if x7=0 then(some (([]:List (S60)),20))else((L_fraction.f k (rd x15 x17) x7).bind fun bt127=>(if x6.length<8796093022208 then(L_profile_shares.l0 k (x6++ [(⟨bt127.1,bt127.2⟩:S60)]) (wrap64 (x7-(rd x15 x17))) x15 x16 (wrap64 (x17+1)))else(none))))else(none))else(none))else(some (x6,0))
def L_profile_shares.f (k:Nat) (l0:List Int) (a1:Int):Option ((List (S60))×Int):=(L_profile_sum.f k l0).bind fun t125=>(if t125>a1 then(some (([]:List (S60)),20))else(L_profile_shares.l0 k ([]:List (S60)) a1 l0 (l0.length:Int) 0))
theorem L_profile_shares.mono_l:∀ k,(∀ y0 y1 y2 y3 y4,LeO (L_profile_shares.l0 k y0 y1 y2 y3 y4) (L_profile_shares.l0 (k+1) y0 y1 y2 y3 y4))
 |0=>fun _ _ _ _ _ r h=>by simp[L_profile_shares.l0]at h
 | k+1=>by
  have ih0:=L_profile_shares.mono_l k
  ·intro y0 y1 y2 y3 y4;unfold L_profile_shares.l0
   have m1:=@L_fraction.mono;have m2:=@L_profile_sum.mono;exact lz
theorem L_profile_shares.mono:∀ a0 a1 k,LeO (L_profile_shares.f k a0 a1) (L_profile_shares.f (k+1) a0 a1):=by
 intro a0 a1 k;have ih0:=L_profile_shares.mono_l k;unfold L_profile_shares.f
 have m1:=@L_fraction.mono;have m2:=@L_profile_sum.mono;exact lz
theorem L_profile_shares.calls (k:Nat) (A0:Option Addr) (c0:Nat) (l0:List Int) (a1:Int) (r1:List (S60)) (r2:Int) (w:World) (hr0:Kd.C (Kd.int .i64) w A0 l0.length l0) (hc0:l0.length≤c0) (H:L_profile_shares.f k l0 a1=some (r1,r2)):
  Calls Tryz.prog 42 #[.slice A0 l0.length c0,.int .i64 a1] w fun e w'=>∃ v0_:Value,e= .returned (.tuple #[v0_,.int .i64 r2])∧Kd.R k60 60 w' w.heap.size (fun _=>True) v0_ r1∧Below w.heap.size w w':=by
 have HR0:=m0 hr0;have HC0:=m0 hc0;clear hr0 hc0;have HB:=m0 (Below.refl w.heap.size w);unfold L_profile_shares.f at H;replace H:=oa H;obtain⟨t125,A3,H⟩:=H;(try dsimp only at H)
 by_cases c4:t125>a1
 ·rw [if_pos c4]at H;have c4b0:=decide_eq_true c4;clear c4;simp only[Option.some.injEq,Prod.mk.injEq]at H;obtain⟨rfl,rfl⟩:=H;go_enter Tryz.func42,Tryz.ntmps42
  go_wp2_with (first|((with_reducible refine gc 70 rfl ?_);refine gl (some 11) Tryz.func70 #[.slice A0 l0.length c0] ?_;(with_reducible refine(L_profile_sum.calls k _ _ l0 t125 _ ?side1 ?side2 A3.out).mono ?_);(case side1=>exact cd HR0.out);(case side2=>exact HC0.out);rintro e w' ⟨rfl,⟨nd,rfl⟩⟩;refine⟨_,rfl,?_⟩))
  go_ret2
  exact⟨_,e4,by first|exact Kd.R_nil _ _ _ _ _|exact Kd.N_nil _ _ _ _ _|exact Kd.V_nil _ _ _ _ _|exact Kd.Q_nil _ _ _ _ _|exact Kd.S_nil _ _ _ _ _,bz⟩
 ·rw [if_neg c4]at H;have c4b0:=decide_eq_false c4;clear c4;have H':=m0 H;clear H;go_enter Tryz.func42,Tryz.ntmps42
  go_wp2_with (first|((with_reducible refine gc 70 rfl ?_);refine gl (some 11) Tryz.func70 #[.slice A0 l0.length c0] ?_;(with_reducible refine(L_profile_sum.calls k _ _ l0 t125 _ ?side1 ?side2 A3.out).mono ?_);(case side1=>exact cd HR0.out);(case side2=>exact HC0.out);rintro e w' ⟨rfl,⟨nd,rfl⟩⟩;refine⟨_,rfl,?_⟩))
  go_loopg [6,7,17] k (fun kq v6 v7 v17 w'=>∃ (x6_1:List (S60)) (x7_1:Int) (x17_1:Int),v7= .int .i64 x7_1∧v17= .int .i64 x17_1∧Aside0 (L_profile_shares.l0 kq x6_1 x7_1 l0 (l0.length:Int) x17_1=some (r1,r2))∧Aside0 (kq≤k)∧Aside0 (Kd.R k60 60 w' w.heap.size (fun _=>True) v6 x6_1)∧Aside0 (Below w.heap.size w w'))
  case atStart=>exact⟨(([]:List (S60))),(a1),(0),rz,rz,H',⟨Nat.le_refl _⟩,⟨by first|exact Kd.R_nil _ _ _ _ _|exact Kd.N_nil _ _ _ _ _|exact Kd.V_nil _ _ _ _ _|exact Kd.Q_nil _ _ _ _ _|exact Kd.S_nil _ _ _ _ _⟩,⟨bz⟩⟩
  case round=>
   clear H';obtain⟨x6_1,x7_1,x17_1,rfl,rfl,HA,HK1,HO_6,HB⟩:=hrel
   cases gk with
   |zero=>exact absurd HA.out (by simp[L_profile_shares.l0])
   | succ k1=>
    have H:=HA.out;clear HA;simp only[L_profile_shares.l0]at H
    by_cases c5:x17_1<(l0.length:Int)
    ·rw [if_pos c5]at H;have c5b0:=decide_eq_true c5;clear c5
     by_cases c6:0≤x17_1
     ·rw [if_pos c6]at H;have c6b0:=decide_eq_true c6;clear c6
      by_cases c7:x17_1<(l0.length:Int)
      ·rw [if_pos c7]at H;have c7b0:=decide_eq_true c7;clear c7
       by_cases c8:x7_1=0
       ·rw [if_pos c8]at H;have c8b0:=beq_iff_eq.mpr c8;have c8b1:=bne_eq_false_iff_eq.mpr c8;clear c8;simp only[Option.some.injEq,Prod.mk.injEq]at H;obtain⟨rfl,rfl⟩:=H;have p126:0≤(x17_1:Int):=od;have q126:x17_1<(l0.length:Int):=od;obtain⟨ad126,e126,hx126_0⟩:=Kd.at_int HR0.out x17_1 p126 q126
        cases e126
        replace hx126_0:=hc HB hx126_0;replace p126:=eq_true p126;replace q126:=eq_true q126
        go_wp2
        go_ret2
        exact⟨_,e4,by first|exact Kd.R_nil _ _ _ _ _|exact Kd.N_nil _ _ _ _ _|exact Kd.V_nil _ _ _ _ _|exact Kd.Q_nil _ _ _ _ _|exact Kd.S_nil _ _ _ _ _,bz⟩
       ·rw [if_neg c8]at H;have c8b0:=beq_eq_false_iff_ne.mpr c8;have c8b1:=bne_iff_ne.mpr c8;replace H:=oa H;obtain⟨⟨t127,t128⟩,A9,H⟩:=H;(try dsimp only at H)
        by_cases c10:x6_1.length<8796093022208
        ·rw [if_pos c10]at H;have LMc10:=m0 c10;clear c10;obtain⟨y129,hy129⟩:∃ y_:List (S60),y_=(x6_1++ [(⟨t127,t128⟩:S60)]):=⟨_,rfl⟩;replace H:(L_profile_shares.l0 k1 y129 (wrap64 (x7_1-(rd l0 x17_1))) l0 (l0.length:Int) (wrap64 (x17_1+1)))=some (r1,r2):=hq hy129 H
         have Ny129:=m0 hy129;clear hy129;have H':=m0 H;clear H;have p126:0≤(x17_1:Int):=od;have q126:x17_1<(l0.length:Int):=od;obtain⟨ad126,e126,hx126_0⟩:=Kd.at_int HR0.out x17_1 p126 q126
         cases e126
         replace hx126_0:=hc HB hx126_0;replace p126:=eq_true p126;replace q126:=eq_true q126
         go_wp2_with (first|((with_reducible refine gc 71 rfl ?_);refine gl (some 26) Tryz.func71 #[.int .i64 (rd l0 x17_1),.int .i64 x7_1] ?_;(with_reducible refine(L_fraction.calls k1 (rd l0 x17_1) x7_1 t127 t128 _ A9.out).mono ?_);rintro e w11 ⟨rfl,hb⟩;refine⟨_,rfl,?_⟩;replace HO_6:=rb HO_6 hb;replace HB:=sb HB hb;(try clear hb))|((with_reducible refine gate_builtin (b:= .append) (xs:= #[.tmp 23,.tmp 27]) rfl ?_);at_builtin;refine Kd.R_append k60 (w0:=w) w.heap.size rfl (.tmp 23) (.tmp 27) 44 60 (.agg #[(.int .i64 0),(.int .i64 0)]) 16 rfl Tryz.underlying44 info60 rfl (by decide) (by omega) u6 x6_1 (⟨t127,t128⟩:S60) [.int .i64 t127,.int .i64 t128] (fun _=>True) (fun _=>False) rfl rfl ?aP (fun _ hk=>hk.elim) ?aF ?aO ?aB ?aS ?aL ?_;(case aP=>exact k60_mkM _ _ _ (⟨t127,t128⟩:S60));(case aB=>exact bz);(case aF=>exact(fun _ _=>trivial));(case aO=>exact(br HO_6.out));(case aS=>exact(below_size bz));(case aL=>have:=LMc10.out;omega);intro v130 w12 ho hb hg hat;rw[← Ny129.out]at ho;have n0_:=m0 (hb);have n1_:=m0 (ho);clear HB HO_6;have HB:=n0_;have HO131:=n1_;clear n0_ n1_;clear ho hb hg hat))
         go_roundg k1
         case measure=>have:=HK1.out;omega
         case rel=>exact⟨(y129),(wrap64 (x7_1-(rd l0 x17_1))),(wrap64 (x17_1+1)),rz,rz,H',⟨by have:=HK1.out;omega⟩,⟨br HO131.out⟩,⟨bz⟩⟩
        ·rw [if_neg c10]at H;exact absurd H (by simp)
      ·rw [if_neg c7]at H;exact absurd H (by simp)
     ·rw [if_neg c6]at H;exact absurd H (by simp)
    ·rw [if_neg c5]at H;have c5b0:=decide_eq_false c5;clear c5;simp only[Option.some.injEq,Prod.mk.injEq]at H;obtain⟨rfl,rfl⟩:=H
     go_wp2
     go_ret2
     exact⟨_,e4,by(with_reducible repeat(first|apply Kd.R_alloc|apply Kd.R_drewN|apply Kd.R_drew));exact HO_6.out,bz⟩
end
section
def L_Undone.f (k:Nat) (l0:List Int) (a1:Int):Option ((List (S60))×Int):=(L_open.f k l0).bind fun bt132=>((L_constantErr.f a1).bind fun t136=>((L_first.f k (([bt132.2,t136]:List Int))).bind fun t140=>(if t140=0 then((L_profile_shares.f k bt132.1 a1).bind fun bt141=>(some (bt141.1,bt141.2)))else(some (([]:List (S60)),t140)))))
theorem L_Undone.mono:∀ a0 a1 k,LeO (L_Undone.f k a0 a1) (L_Undone.f (k+1) a0 a1):=by
 intro a0 a1 k;unfold L_Undone.f
 have m1:=@L_first.mono;have m2:=@L_open.mono;have m3:=@L_profile_shares.mono;exact lz
theorem L_Undone.calls (k:Nat) (A0:Option Addr) (c0:Nat) (l0:List Int) (a1:Int) (r1:List (S60)) (r2:Int) (w:World) (hr0:Kd.C (Kd.int .i64) w A0 l0.length l0) (hc0:l0.length≤c0) (H:L_Undone.f k l0 a1=some (r1,r2)):
  Calls Tryz.prog 20 #[.slice A0 l0.length c0,.int .i64 a1] w fun e w'=>∃ v0_:Value,e= .returned (.tuple #[v0_,.int .i64 r2])∧Kd.R k60 60 w' w.heap.size (fun _=>True) v0_ r1∧Below w.heap.size w w':=by
 have HR0:=m0 hr0;have HC0:=m0 hc0;clear hr0 hc0;have HB:=m0 (Below.refl w.heap.size w);unfold L_Undone.f at H;replace H:=oa H;obtain⟨⟨t132,t135⟩,A3,H⟩:=H;(try dsimp only at H);replace H:=oa H;obtain⟨t136,A4,H⟩:=H;(try dsimp only at H);obtain⟨y137,hy137⟩:∃ y_:List Int,y_=(([t135,t136]:List Int)):=⟨_,rfl⟩;replace H:((L_first.f k y137).bind fun t140=>(if t140=0 then((L_profile_shares.f k t132 a1).bind fun bt141=>(some (bt141.1,bt141.2)))else(some (([]:List (S60)),t140))))=some (r1,r2):=hq hy137 H
 have Ny137:=m0 hy137;clear hy137;replace H:=oa H;obtain⟨t140,A5,H⟩:=H;(try dsimp only at H)
 by_cases c6:t140=0
 ·rw [if_pos c6]at H;have c6b0:=beq_iff_eq.mpr c6;have c6b1:=bne_eq_false_iff_eq.mpr c6;clear c6;replace H:=oa H;obtain⟨⟨t141,t142⟩,A7,H⟩:=H;(try dsimp only at H);simp only[Option.some.injEq,Prod.mk.injEq]at H;obtain⟨rfl,rfl⟩:=H;go_enter Tryz.func20,Tryz.ntmps20
  go_wp2_with (first|((with_reducible refine gc 39 rfl ?_);refine gl (some 10) Tryz.func39 #[.slice A0 l0.length c0] ?_;(with_reducible refine(L_open.calls k (fun k_=>k_<w.heap.size) _ _ l0 t132 t135 _ ?side1 A3.out).mono ?_);(case side1=>exact Kd.V_mk HC0.out (Kd.F_below (Kd.C_F (Kd.heap_int .i64) HR0.out) bz));rintro e w8 ⟨v133,rfl,ho0,hb⟩;refine⟨_,rfl,?_⟩;have HO134:=hv w (fun k_=>True) ho0 (fun k_ hk_=>trivial);replace HB:=sb HB hb;(try clear hb);(try clear ho0))|((with_reducible refine gc 41 rfl ?_);refine gl (some 15) Tryz.func41 #[.int .i64 a1] ?_;(with_reducible refine(L_constantErr.calls a1 t136 _ A4.out).mono ?_);rintro e w' ⟨rfl,⟨nd,rfl⟩⟩;refine⟨_,rfl,?_⟩)|((with_reducible refine ga 16 rfl ?_);refine Kd.R_lit (Kd.int .i64) _ 30 ?hg (N:=16) ?hd (xs:=([t135,t136]:List Int)) (inner:=[.int .i64 t135,.int .i64 t136]) (ok:=fun _=>True) (okp:=fun _=>True) ?hr ?hp (fun _ hk=>hk) trivial (Below.refl _ _) (Nat.le_refl _) (by simp) ?_;(case hd=>rfl);(case hg=>rfl);(case hr=>first|(go_simp;done)|(go_simp;rfl));(case hp=>exact(Reps.one (ki t135) (Reps.one (ki t136) (Reps.none _ _))));intro v138 w9 ho10 hb hg_ hnew_;clear hg_ hnew_;(first|rw[← Ny137.out]at ho10|(simp only[Int.reduceToNat]at ho10;rw[← Ny137.out]at ho10));replace HO134:=m0 (Kd.V_elder' (va HO134.out) (Kd.R_base ho10) hb);have HO139:=m0 (Kd.R_lower ho10 (below_size bz));replace HB:=sb HB hb;clear hb ho10;obtain⟨Ao11,co11,eo11⟩:=Kd.R_slice HO139.out;subst eo11)|((with_reducible refine gc 40 rfl ?_);refine gl (some 17) Tryz.func40 #[.slice Ao11 y137.length co11] ?_;(with_reducible refine(L_first.calls k _ _ y137 t140 _ ?side1 ?side2 A5.out).mono ?_);(case side1=>exact bc (Kd.R_reads' HO139.out).2.2);(case side2=>exact(Kd.R_reads' HO139.out).2.1);rintro e w' ⟨rfl,⟨nd,rfl⟩⟩;refine⟨_,rfl,?_⟩;obtain⟨Ao12,co12,eo12⟩:=Kd.V_slice HO134.out;subst eo12)|((with_reducible refine gc 42 rfl ?_);refine gl (some 23) Tryz.func42 #[.slice Ao12 t132.length co12,.int .i64 a1] ?_;(with_reducible refine(L_profile_shares.calls k _ _ t132 a1 t141 t142 _ ?side1 ?side2 A7.out).mono ?_);(case side1=>exact bc (Kd.V_reads' HO134.out).2.2);(case side2=>exact(Kd.V_reads' HO134.out).2.1);rintro e w13 ⟨v143,rfl,ho0,hb⟩;refine⟨_,rfl,?_⟩;replace HO134:=m0 (Kd.V_elder' (va HO134.out) (Kd.R_base ho0) hb);replace HO139:=rb HO139 hb;have HO144:=m0 (Kd.R_lower ho0 (below_size bz));replace HB:=sb HB hb;(try clear hb);(try clear ho0)))
  go_ret2
  exact⟨_,e4,by(with_reducible repeat(first|apply Kd.R_alloc|apply Kd.R_drewN|apply Kd.R_drew));exact HO144.out,bz⟩
 ·rw [if_neg c6]at H;have c6b0:=beq_eq_false_iff_ne.mpr c6;have c6b1:=bne_iff_ne.mpr c6;simp only[Option.some.injEq,Prod.mk.injEq]at H;obtain⟨rfl,rfl⟩:=H;go_enter Tryz.func20,Tryz.ntmps20
  go_wp2_with (first|((with_reducible refine gc 39 rfl ?_);refine gl (some 10) Tryz.func39 #[.slice A0 l0.length c0] ?_;(with_reducible refine(L_open.calls k (fun k_=>k_<w.heap.size) _ _ l0 t132 t135 _ ?side1 A3.out).mono ?_);(case side1=>exact Kd.V_mk HC0.out (Kd.F_below (Kd.C_F (Kd.heap_int .i64) HR0.out) bz));rintro e w14 ⟨v133,rfl,ho0,hb⟩;refine⟨_,rfl,?_⟩;have HO134:=hv w (fun k_=>True) ho0 (fun k_ hk_=>trivial);replace HB:=sb HB hb;(try clear hb);(try clear ho0))|((with_reducible refine gc 41 rfl ?_);refine gl (some 15) Tryz.func41 #[.int .i64 a1] ?_;(with_reducible refine(L_constantErr.calls a1 t136 _ A4.out).mono ?_);rintro e w' ⟨rfl,⟨nd,rfl⟩⟩;refine⟨_,rfl,?_⟩)|((with_reducible refine ga 16 rfl ?_);refine Kd.R_lit (Kd.int .i64) _ 30 ?hg (N:=16) ?hd (xs:=([t135,t136]:List Int)) (inner:=[.int .i64 t135,.int .i64 t136]) (ok:=fun _=>True) (okp:=fun _=>True) ?hr ?hp (fun _ hk=>hk) trivial (Below.refl _ _) (Nat.le_refl _) (by simp) ?_;(case hd=>rfl);(case hg=>rfl);(case hr=>first|(go_simp;done)|(go_simp;rfl));(case hp=>exact(Reps.one (ki t135) (Reps.one (ki t136) (Reps.none _ _))));intro v138 w15 ho16 hb hg_ hnew_;clear hg_ hnew_;(first|rw[← Ny137.out]at ho16|(simp only[Int.reduceToNat]at ho16;rw[← Ny137.out]at ho16));replace HO134:=m0 (Kd.V_elder' (va HO134.out) (Kd.R_base ho16) hb);have HO139:=m0 (Kd.R_lower ho16 (below_size bz));replace HB:=sb HB hb;clear hb ho16;obtain⟨Ao17,co17,eo17⟩:=Kd.R_slice HO139.out;subst eo17)|((with_reducible refine gc 40 rfl ?_);refine gl (some 17) Tryz.func40 #[.slice Ao17 y137.length co17] ?_;(with_reducible refine(L_first.calls k _ _ y137 t140 _ ?side1 ?side2 A5.out).mono ?_);(case side1=>exact bc (Kd.R_reads' HO139.out).2.2);(case side2=>exact(Kd.R_reads' HO139.out).2.1);rintro e w' ⟨rfl,⟨nd,rfl⟩⟩;refine⟨_,rfl,?_⟩))
  go_ret2
  exact⟨_,e4,by first|exact Kd.R_nil _ _ _ _ _|exact Kd.N_nil _ _ _ _ _|exact Kd.V_nil _ _ _ _ _|exact Kd.Q_nil _ _ _ _ _|exact Kd.S_nil _ _ _ _ _,bz⟩
end
section
def L_openDivision.f (k:Nat) (l0:List Int) (a1:Int):Option (List Int×Int):=(L_open.f k l0).bind fun bt145=>((L_within.f a1 0 1000000).bind fun t149=>((L_unless.f t149 2).bind fun t150=>((L_first.f k (([bt145.2,t150]:List Int))).bind fun t154=>(some (bt145.1,t154)))))
theorem L_openDivision.mono:∀ a0 a1 k,LeO (L_openDivision.f k a0 a1) (L_openDivision.f (k+1) a0 a1):=by
 intro a0 a1 k;unfold L_openDivision.f
 have m1:=@L_first.mono;have m2:=@L_open.mono;exact lz
theorem L_openDivision.calls (k:Nat) (P0_:Nat→Prop) (A0:Option Addr) (c0:Nat) (l0:List Int) (a1:Int) (r1:List Int) (r2:Int) (w:World) (hs0:Kd.V (Kd.int .i64) 3 w w.heap.size (fun k_=>P0_ k_) (.slice A0 l0.length c0) l0) (H:L_openDivision.f k l0 a1=some (r1,r2)):
  Calls Tryz.prog 43 #[.slice A0 l0.length c0,.int .i64 a1] w fun e w'=>∃ v0_:Value,e= .returned (.tuple #[v0_,.int .i64 r2])∧Kd.V (Kd.int .i64) 3 w' w.heap.size (fun k_=>(P0_ k_∨w.heap.size≤k_)) v0_ r1∧Below w.heap.size w w':=by
 have HO0:=m0 (show Kd.V (Kd.int .i64) 3 w w.heap.size (fun k_=>(P0_ k_∨w.heap.size≤k_)) (.slice A0 l0.length c0) l0 from Kd.V_mono hs0 (fun k_ hk=> .inl hk));have HB:=m0 (Below.refl w.heap.size w);unfold L_openDivision.f at H;replace H:=oa H;obtain⟨⟨t145,t148⟩,A3,H⟩:=H;(try dsimp only at H);replace H:=oa H;obtain⟨t149,A4,H⟩:=H;(try dsimp only at H);replace H:=oa H;obtain⟨t150,A5,H⟩:=H;(try dsimp only at H);obtain⟨y151,hy151⟩:∃ y_:List Int,y_=(([t148,t150]:List Int)):=⟨_,rfl⟩;replace H:((L_first.f k y151).bind fun t154=>(some (t145,t154)))=some (r1,r2):=hq hy151 H
 have Ny151:=m0 hy151;clear hy151;replace H:=oa H;obtain⟨t154,A6,H⟩:=H;(try dsimp only at H);simp only[Option.some.injEq,Prod.mk.injEq]at H;obtain⟨rfl,rfl⟩:=H;go_enter Tryz.func43,Tryz.ntmps43
 go_wp2_with (first|((with_reducible refine gc 39 rfl ?_);refine gl (some 10) Tryz.func39 #[.slice A0 l0.length c0] ?_;(with_reducible refine(L_open.calls k (fun k_=>(P0_ k_∨w.heap.size≤k_)) _ _ l0 t145 t148 _ ?side1 A3.out).mono ?_);(case side1=>exact HO0.out);rintro e w7 ⟨v146,rfl,ho0,hb⟩;refine⟨_,rfl,?_⟩;replace HO0:=vb HO0 hb;have HO147:=hv w (fun k_=>(P0_ k_∨w.heap.size≤k_)) ho0 (fun k_ hk_=>Or.elim hk_ (fun hs_=>hs_) (fs ·));replace HB:=sb HB hb;(try clear hb);(try clear ho0))|((with_reducible refine gc 46 rfl ?_);refine gl (some 16) Tryz.func46 #[.int .i64 a1,.int .i64 0,.int .i64 1000000] ?_;(with_reducible refine(L_within.calls a1 0 1000000 t149 _ A4.out).mono ?_);rintro e w' ⟨rfl,⟨nd,rfl⟩⟩;refine⟨_,rfl,?_⟩)|((with_reducible refine gc 45 rfl ?_);refine gl (some 17) Tryz.func45 #[.bool t149,.int .i64 2] ?_;(with_reducible refine(L_unless.calls t149 2 t150 _ A5.out).mono ?_);rintro e w' ⟨rfl,⟨nd,rfl⟩⟩;refine⟨_,rfl,?_⟩)|((with_reducible refine ga 18 rfl ?_);refine Kd.R_lit (Kd.int .i64) _ 30 ?hg (N:=18) ?hd (xs:=([t148,t150]:List Int)) (inner:=[.int .i64 t148,.int .i64 t150]) (ok:=fun _=>True) (okp:=fun _=>True) ?hr ?hp (fun _ hk=>hk) trivial (Below.refl _ _) (Nat.le_refl _) (by simp) ?_;(case hd=>rfl);(case hg=>rfl);(case hr=>first|(go_simp;done)|(go_simp;rfl));(case hp=>exact(Reps.one (ki t148) (Reps.one (ki t150) (Reps.none _ _))));intro v152 w8 ho9 hb hg_ hnew_;clear hg_ hnew_;(first|rw[← Ny151.out]at ho9|(simp only[Int.reduceToNat]at ho9;rw[← Ny151.out]at ho9));replace HO0:=m0 (Kd.V_elder' (va HO0.out) (Kd.R_base ho9) hb);replace HO147:=m0 (Kd.V_elder' (va HO147.out) (Kd.R_base ho9) hb);have HO153:=m0 (Kd.R_lower (Kd.R_newM (M:=fun k_=>(w.heap.size≤k_)) ho9 (below_size bz) (fun k_ h_=>h_)) (below_size bz));replace HB:=sb HB hb;clear hb ho9;obtain⟨Ao10,co10,eo10⟩:=Kd.R_slice HO153.out;subst eo10)|((with_reducible refine gc 40 rfl ?_);refine gl (some 19) Tryz.func40 #[.slice Ao10 y151.length co10] ?_;(with_reducible refine(L_first.calls k _ _ y151 t154 _ ?side1 ?side2 A6.out).mono ?_);(case side1=>exact bc (Kd.R_reads' HO153.out).2.2);(case side2=>exact(Kd.R_reads' HO153.out).2.1);rintro e w' ⟨rfl,⟨nd,rfl⟩⟩;refine⟨_,rfl,?_⟩))
 go_ret2
 exact⟨_,e4,by(with_reducible repeat(first|apply Kd.V_alloc|apply Kd.V_drewN|apply Kd.V_drew));exact Kd.V_mono HO147.out (fun _ hk=>hk.1),bz⟩
end
section
theorem itb_ {A W wr:World} {p:Addr} {v:Value} (hW:Below A.heap.size A W) (hB:Below A.heap.size W wr) (h:A.cell? p=some v):wr.cell? p=some v:=
 (hB.cell (World.block_lt_of_cell? A _ h)).trans ((hW.cell (World.block_lt_of_cell? A _ h)).trans h)
theorem abides_new_ {β:Type} {J:β→World→Prop} {n:Nat} {s:β} {W:World} {o:Obj} (hA:AbidesFrom n J) (h:J s W):J s (W.alloc o):=hA s W _ none h (World.grownBy_alloc W o none) (fun r e=>by cases e)
theorem itn_ {n:Nat} {W0 W:World} {o:Obj} (h:Below n W0 W) (hn:n≤W.heap.size):Below n W0 (W.alloc o):=h.alloc hn o
theorem L_profile_int.calls_own (A:Option Addr) (n c:Nat) (w:World):
  Calls Tryz.prog 95 #[.slice A n c] w fun e w'=>∃ gb,gb=w.heap.size∧e= .returned (.func (.func 113) #[] #[.pointer (some ⟨gb,0,none⟩)])∧w'.heap[gb]?=some (.cells #[.slice A n c] 77 (0,0))∧Below w.heap.size w w':=by
 go_enter Tryz.func95,Tryz.ntmps95
 go_wp2
 go_ret
 exact⟨_,rfl,rfl,blk_new _ _,below_alloc (Below.refl _ _) _⟩
attribute [local go_sem] Oper.semAt_some
theorem L_profile_int.take_snoc (l:List Int) (x:Int) (h0:0≤x) (h1:x<(l.length:Int)):l.take (x+1).toNat=l.take x.toNat++ [rd l x]:=by
 have e:(x+1).toNat=x.toNat+1:=by omega
 have h:x.toNat<l.length:=by omega
 rw[e,List.take_succ_eq_append_getElem h]
 congr 1
 simp[rd,List.getD_eq_getElem?_getD,List.getElem?_eq_getElem h]
theorem L_profile_int.stops (n:Nat) (hn:1≤n) (A:Option Addr) (c:Nat) (l:List Int) (B:Nat) (w:World) (hbx:w.heap[B]?=some (.cells #[.slice A l.length c] 77 (0,0))) (hr:Kd.C (Kd.int .i64) w A l.length l):
  SeqStopsK Fence.wide n Tryz.prog 113 #[.pointer (some ⟨B,0,none⟩)] (fun x_:Int=>(#[(.int .i64 (x_))]:Array Value)) (Below w.heap.size) (fun ys=>ys=l) (fun _=>True) l.length w:=by
 intro l_ J Jx W hW hJ hJx hY h0;have hcx:W.cell? ⟨B,0,none⟩=some (.slice A l.length c):=(blk_cell (blk_below hbx hW) 0).trans rfl;have HL:=m0 (show(l.length:Int)≤9223372036854775807 by have:=hr.2.1;omega);have HY:=m0 hY;have HR:=m0 hr;have H0:=m0 h0;have HW:=m0 hW;have HJA:=m0 hJ;clear hr hbx hY h0 hJ hJx hW;refine callsIn_of_wp Tryz.func113 rfl trivial ?_ rfl;simp only[Tryz.ntmps113,List.size_toArray,List.length_cons,List.length_nil,Nat.reduceAdd,Nat.reduceSub,Array.replicate_succ,Array.replicate_zero,List.push_toArray,List.append_toArray,List.nil_append,List.cons_append]
 gi_wp2
 gi_loopw [7] (fun i wr=>∃ x:Int,i= .int .i64 x∧Aside0 (0≤x∧x≤l.length)∧Aside0 (J (l.take x.toNat) wr)∧Aside0 (Below w.heap.size W wr)) (fun i _=>l.length-(intOf i).toNat)
 case atStart=>exact⟨0,rfl,⟨by omega,by omega⟩,⟨H0.out⟩,⟨Below.refl _ _⟩⟩
 case round=>
  obtain⟨x,rfl,HX,HJ,HB⟩:=hrel;clear hcx
  by_cases hlt:x<(l.length:Int)
  ·obtain ⟨ad,e,hx0⟩:=Kd.at_int HR.out x HX.out.1 hlt
   cases e
   replace hx0:=itb_ HW.out HB.out hx0;have HLT:=m0 hlt;have c1:decide (x<(l.length:Int))=true:=decide_eq_true hlt;have p1:=eq_true HX.out.1;have q1:=eq_true hlt;clear hlt;obtain⟨fn,tmps,assign,body,hy,hR⟩:=HY.out (l.take x.toNat) (rd l x) wr HJ.out (by rw[List.length_take];have:=HLT.out;have:=HX.out;omega);have HRR:=m0 hR;clear hR
   gi_wp2
   refine HRR.out.mono ?_;rintro e W3 (⟨rfl,hJ3,hk3⟩|⟨rfl,hJx3⟩)
   ·have HJ3:=m0 hJ3;have HK3:=m0 (show Below w.heap.size W W3 from HB.out.trans hk3);clear hJ3 hk3 hy
    gi_wp2
    go_roundw
    case rel=>
     have h0:=HX.out.1;have h1:=HLT.out;have hL:=HL.out;have e1:wrap64 (x+1)=x+1:=by unfold wrap64;omega
     refine⟨wrap64 (x+1),rfl,?_,?_,HK3⟩
     ·rw [e1];exact⟨⟨by omega,by omega⟩⟩
     ·rw [e1,L_profile_int.take_snoc l x h0 h1];exact HJ3
    case measure=>
     have h0:=HX.out.1;have h1:=HLT.out;have hL:=HL.out;have e1:wrap64 (x+1)=x+1:=by unfold wrap64;omega
     simp only[intOf];rw[e1];omega
   ·have HJX:=m0 hJx3;clear hJx3 hy
    gi_wp2
    refine bodyPost_ret (results_none rfl _ _ _) rfl ?_;exact⟨⟨_,rfl⟩,.inr ⟨_,trivial,HJX.out⟩⟩
  ·have HN:=m0 hlt;have c1:decide (x<(l.length:Int))=false:=decide_eq_false hlt;clear hlt
   gi_wp2
   go_end0
   have hj:=HJ.out;rw[List.take_of_length_le (by have:=HN.out;omega)]at hj
   first
    |exact⟨⟨_,rfl⟩,.inl ⟨_,rfl,hj⟩⟩
    |exact⟨⟨_,rfl⟩,.inl hj⟩
end
end Go.Proofs.YteiafijbgjgiaaaGreatDoor.A
