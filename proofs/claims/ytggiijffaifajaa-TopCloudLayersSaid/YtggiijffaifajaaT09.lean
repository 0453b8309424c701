/- Walks of the program's functions (printed, made shorter), each with what it computes. -/
import Derived.Test.YtggiijffaifajaaT08
namespace Go.Proofs.Ytggiijffaifajaa.A
set_option maxHeartbeats 8000000
set_option maxRecDepth 100000
open Go.RowKit Go.Proofs.YtggiijffaifajaaW.PrintWords Go.Proofs.YtggiijffaifajaaW.PrintLast Go.Proofs.YtggiijffaifajaaW.PrintMore
attribute [local go_sem] max2_int min2_int max_two min_two max_three min_three max_four min_four
set_option linter.unusedVariables false
set_option linter.unusedSimpArgs false
section
def L_profile_shares.l0:Nat→List (S53)→Int→List Int→Int→Int→Option ((List (S53))×Int)
 |0,_,_,_,_,_=>none
 |k+1,x6,x7,x15,x16,x17=>if x17<x16 then(if 0≤x17 then(if x17<(x15.length:Int)then(if x7=0 then(some (([]:List (S53)),20))else((L_fraction.f k (rd x15 x17) x7).bind fun bt182=>(if x6.length<8796093022208 then(L_profile_shares.l0 k (x6++ [(⟨bt182.1,bt182.2⟩:S53)]) (wrap64 (x7-(rd x15 x17))) x15 x16 (wrap64 (x17+1)))else(none))))else(none))else(none))else(some (x6,0))
def L_profile_shares.f (k:Nat) (l0:List Int) (a1:Int):Option ((List (S53))×Int):=(L_profile_sum.f k l0).bind fun t180=>(if t180>a1 then(some (([]:List (S53)),20))else(L_profile_shares.l0 k ([]:List (S53)) a1 l0 (l0.length:Int) 0))
theorem L_profile_shares.mono_l:∀ k,(∀ y0 y1 y2 y3 y4,LeO (L_profile_shares.l0 k y0 y1 y2 y3 y4) (L_profile_shares.l0 (k+1) y0 y1 y2 y3 y4))
 |0=>fun _ _ _ _ _ r h=>by simp[L_profile_shares.l0]at h
 | k+1=>by
  have ih0:=L_profile_shares.mono_l k
  ·intro y0 y1 y2 y3 y4;unfold L_profile_shares.l0
   repeat' with_reducible first
    |exact ih0 ..
    |exact L_fraction.mono ..
    |exact L_profile_sum.mono ..
    |exact LeO.refl ..
    |exact LeO.none ..
    |refine LeO.ite ?_ ?_
    |refine LeO.bind ?_ (fun _=>?_)
theorem L_profile_shares.mono:∀ a0 a1 k,LeO (L_profile_shares.f k a0 a1) (L_profile_shares.f (k+1) a0 a1):=by
 intro a0 a1 k;have ih0:=L_profile_shares.mono_l k;unfold L_profile_shares.f
 repeat' with_reducible first
  |exact ih0 ..
  |exact L_fraction.mono ..
  |exact L_profile_sum.mono ..
  |exact LeO.refl ..
  |exact LeO.none ..
  |refine LeO.ite ?_ ?_
  |refine LeO.bind ?_ (fun _=>?_)
theorem L_profile_shares.calls (k:Nat) (A0:Option Addr) (c0:Nat) (l0:List Int) (a1:Int) (r1:List (S53)) (r2:Int) (w:World) (hr0:Kd.C (Kd.int .i64) w A0 l0.length l0) (hc0:l0.length≤c0) (H:L_profile_shares.f k l0 a1=some (r1,r2)):
  Calls Try.prog 38 #[.slice A0 l0.length c0,.int .i64 a1] w fun e w'=>∃ v0_:Value,e= .returned (.tuple #[v0_,.int .i64 r2])∧Kd.R k53 53 w' w.heap.size (fun _=>True) v0_ r1∧Below w.heap.size w w':=by
 have HR0:=m0 hr0;have HC0:=m0 hc0;clear hr0 hc0;have HB:=m0 (Below.refl w.heap.size w);unfold L_profile_shares.f at H;replace H:=oa H;obtain⟨t180,A3,H⟩:=H;(try dsimp only at H)
 by_cases c4:t180>a1
 ·rw [if_pos c4]at H;have c4b0:=decide_eq_true c4;clear c4;simp only[Option.some.injEq,Prod.mk.injEq]at H;obtain⟨rfl,rfl⟩:=H;go_enter Try.func38,Try.ntmps38
  go_wp2_with (first|((with_reducible refine gc 53 rfl ?_);refine gl (some 11) Try.func53 #[.slice A0 l0.length c0] ?_;(with_reducible refine(L_profile_sum.calls k _ _ l0 t180 _ ?side1 ?side2 A3.out).mono ?_);(case side1=>repeat(first|exact HR0.out|(with_reducible refine Kd.C_alloc ?_ _)|(with_reducible refine Kd.C_drewN ?_ _)|(with_reducible refine Kd.C_drew ?_)));(case side2=>exact HC0.out);rintro e w' ⟨rfl,⟨nd,rfl⟩⟩;refine⟨_,rfl,?_⟩))
  go_ret2
  exact⟨_,by first|rfl|(simp[errW_none,errW_some]<;>rfl)|(simp[*,errW_none,errW_some]<;>rfl),by first|exact Kd.R_nil _ _ _ _ _|exact Kd.N_nil _ _ _ _ _|exact Kd.V_nil _ _ _ _ _|exact Kd.Q_nil _ _ _ _ _|exact Kd.S_nil _ _ _ _ _,by repeat(first|(with_reducible first|exact HB.out|apply below_alloc|apply pw_below_drewN|apply below_drew1)|exact HB.out)⟩
 ·rw [if_neg c4]at H;have c4b0:=decide_eq_false c4;clear c4;have H':=m0 H;clear H;go_enter Try.func38,Try.ntmps38
  go_wp2_with (first|((with_reducible refine gc 53 rfl ?_);refine gl (some 11) Try.func53 #[.slice A0 l0.length c0] ?_;(with_reducible refine(L_profile_sum.calls k _ _ l0 t180 _ ?side1 ?side2 A3.out).mono ?_);(case side1=>repeat(first|exact HR0.out|(with_reducible refine Kd.C_alloc ?_ _)|(with_reducible refine Kd.C_drewN ?_ _)|(with_reducible refine Kd.C_drew ?_)));(case side2=>exact HC0.out);rintro e w' ⟨rfl,⟨nd,rfl⟩⟩;refine⟨_,rfl,?_⟩))
  go_loopg [6,7,17] k (fun kq v6 v7 v17 w'=>∃ (x6_1:List (S53)) (x7_1:Int) (x17_1:Int),v7= .int .i64 x7_1∧v17= .int .i64 x17_1∧Aside0 (L_profile_shares.l0 kq x6_1 x7_1 l0 (l0.length:Int) x17_1=some (r1,r2))∧Aside0 (kq≤k)∧Aside0 (Kd.R k53 53 w' w.heap.size (fun _=>True) v6 x6_1)∧Aside0 (Below w.heap.size w w'))
  case atStart=>exact⟨(([]:List (S53))),(a1),(0),rz,rz,H',⟨Nat.le_refl _⟩,⟨by first|exact Kd.R_nil _ _ _ _ _|exact Kd.N_nil _ _ _ _ _|exact Kd.V_nil _ _ _ _ _|exact Kd.Q_nil _ _ _ _ _|exact Kd.S_nil _ _ _ _ _⟩,⟨bz⟩⟩
  case round=>
   clear H';obtain⟨x6_1,x7_1,x17_1,rfl,rfl,HA,HK1,HO_6,HB⟩:=hrel
   cases gk with
   |zero=>exact absurd HA.out (by simp[L_profile_shares.l0])
   | succ k1=>
    have H:=HA.out;clear HA;simp only[L_profile_shares.l0]at H
    by_cases c5:x17_1<(l0.length:Int)
    ·rw [if_pos c5]at H;have c5b0:=decide_eq_true c5;clear c5
     by_cases c6:0≤x17_1
     ·rw [if_pos c6]at H;have c6b0:=decide_eq_true c6;clear c6
      by_cases c7:x17_1<(l0.length:Int)
      ·rw [if_pos c7]at H;have c7b0:=decide_eq_true c7;clear c7
       by_cases c8:x7_1=0
       ·rw [if_pos c8]at H;have c8b0:=beq_iff_eq.mpr c8;have c8b1:=bne_eq_false_iff_eq.mpr c8;clear c8;simp only[Option.some.injEq,Prod.mk.injEq]at H;obtain⟨rfl,rfl⟩:=H;have p181:0≤(x17_1:Int):=od;have q181:x17_1<(l0.length:Int):=od;obtain⟨ad181,e181,hx181_0⟩:=Kd.at_int HR0.out x17_1 p181 q181
        cases e181
        replace hx181_0:=hc HB hx181_0;replace p181:=eq_true p181;replace q181:=eq_true q181
        go_wp2
        go_ret2
        exact⟨_,by first|rfl|(simp[errW_none,errW_some]<;>rfl)|(simp[*,errW_none,errW_some]<;>rfl),by first|exact Kd.R_nil _ _ _ _ _|exact Kd.N_nil _ _ _ _ _|exact Kd.V_nil _ _ _ _ _|exact Kd.Q_nil _ _ _ _ _|exact Kd.S_nil _ _ _ _ _,by repeat(first|(with_reducible first|exact HB.out|apply below_alloc|apply pw_below_drewN|apply below_drew1)|exact HB.out)⟩
       ·rw [if_neg c8]at H;have c8b0:=beq_eq_false_iff_ne.mpr c8;have c8b1:=bne_iff_ne.mpr c8;replace H:=oa H;obtain⟨⟨t182,t183⟩,A9,H⟩:=H;(try dsimp only at H)
        by_cases c10:x6_1.length<8796093022208
        ·rw [if_pos c10]at H;have LMc10:=m0 c10;clear c10;obtain⟨y184,hy184⟩:∃ y_:List (S53),y_=(x6_1++ [(⟨t182,t183⟩:S53)]):=⟨_,rfl⟩;replace H:(L_profile_shares.l0 k1 y184 (wrap64 (x7_1-(rd l0 x17_1))) l0 (l0.length:Int) (wrap64 (x17_1+1)))=some (r1,r2):=by first|(rw[hy184];with_reducible exact H)|(have H2_:=(Option.bind_some _ _).symm.trans H;rw[hy184];with_reducible exact H2_)|(have H2_:=(Option.bind_some _ _).symm.trans H;with_reducible exact H2_)|with_reducible exact H|(rw[hy184];exact H)|exact H
         have Ny184:=m0 hy184;clear hy184;have H':=m0 H;clear H;have p181:0≤(x17_1:Int):=od;have q181:x17_1<(l0.length:Int):=od;obtain⟨ad181,e181,hx181_0⟩:=Kd.at_int HR0.out x17_1 p181 q181
         cases e181
         replace hx181_0:=hc HB hx181_0;replace p181:=eq_true p181;replace q181:=eq_true q181
         go_wp2_with (first|((with_reducible refine gc 54 rfl ?_);refine gl (some 26) Try.func54 #[.int .i64 (rd l0 x17_1),.int .i64 x7_1] ?_;(with_reducible refine(L_fraction.calls k1 (rd l0 x17_1) x7_1 t182 t183 _ A9.out).mono ?_);rintro e w11 ⟨rfl,hb⟩;refine⟨_,rfl,?_⟩;replace HO_6:=rb HO_6 hb;replace HB:=sb HB hb;(try clear hb))|((with_reducible refine gate_builtin (b:= .append) (xs:= #[.tmp 23,.tmp 27]) rfl ?_);at_builtin;refine Kd.R_append k53 (w0:=w) w.heap.size rfl (.tmp 23) (.tmp 27) 47 53 (.agg #[(.int .i64 0),(.int .i64 0)]) 16 rfl Try.underlying47 info53 rfl (by decide) (by omega) u6 x6_1 (⟨t182,t183⟩:S53) [.int .i64 t182,.int .i64 t183] (fun _=>True) (fun _=>False) rfl rfl ?aP (fun _ hk=>hk.elim) ?aF ?aO ?aB ?aS ?aL ?_;(case aP=>exact k53_mkM _ _ _ (⟨t182,t183⟩:S53));(case aB=>exact bz);(case aF=>exact(fun _ _=>trivial));(case aO=>exact(br HO_6.out));(case aS=>exact(below_size bz));(case aL=>have:=LMc10.out;omega);intro v185 w12 ho hb hg hat;rw[← Ny184.out]at ho;have n0_:=m0 (hb);have n1_:=m0 (ho);clear HB;clear HO_6;have HB:=n0_;have HO186:=n1_;clear n0_ n1_;clear ho hb hg hat))
         go_roundg k1
         case measure=>have:=HK1.out;omega
         case rel=>exact⟨(y184),(wrap64 (x7_1-(rd l0 x17_1))),(wrap64 (x17_1+1)),rz,rz,H',⟨by have:=HK1.out;omega⟩,⟨br HO186.out⟩,⟨bz⟩⟩
        ·rw [if_neg c10]at H;exact absurd H (by simp)
      ·rw [if_neg c7]at H;exact absurd H (by simp)
     ·rw [if_neg c6]at H;exact absurd H (by simp)
    ·rw [if_neg c5]at H;have c5b0:=decide_eq_false c5;clear c5;simp only[Option.some.injEq,Prod.mk.injEq]at H;obtain⟨rfl,rfl⟩:=H
     go_wp2
     go_ret2
     exact⟨_,by first|rfl|(simp[errW_none,errW_some]<;>rfl)|(simp[*,errW_none,errW_some]<;>rfl),by(with_reducible repeat(first|apply Kd.R_alloc|apply Kd.R_drewN|apply Kd.R_drew));exact HO_6.out,by repeat(first|(with_reducible first|exact HB.out|apply below_alloc|apply pw_below_drewN|apply below_drew1)|exact HB.out)⟩
end
section
def L_Undone.f (k:Nat) (l0:List Int) (a1:Int):Option ((List (S53))×Int):=(L_open.f k l0).bind fun bt187=>((L_constantErr.f a1).bind fun t191=>((L_first.f k (([bt187.2,t191]:List Int))).bind fun t195=>(if t195=0 then((L_profile_shares.f k bt187.1 a1).bind fun bt196=>(some (bt196.1,bt196.2)))else(some (([]:List (S53)),t195)))))
theorem L_Undone.mono:∀ a0 a1 k,LeO (L_Undone.f k a0 a1) (L_Undone.f (k+1) a0 a1):=by
 intro a0 a1 k;unfold L_Undone.f
 repeat' with_reducible first
  |exact L_first.mono ..
  |exact L_open.mono ..
  |exact L_profile_shares.mono ..
  |exact LeO.refl ..
  |exact LeO.none ..
  |refine LeO.ite ?_ ?_
  |refine LeO.bind ?_ (fun _=>?_)
theorem L_Undone.calls (k:Nat) (A0:Option Addr) (c0:Nat) (l0:List Int) (a1:Int) (r1:List (S53)) (r2:Int) (w:World) (hr0:Kd.C (Kd.int .i64) w A0 l0.length l0) (hc0:l0.length≤c0) (H:L_Undone.f k l0 a1=some (r1,r2)):
  Calls Try.prog 13 #[.slice A0 l0.length c0,.int .i64 a1] w fun e w'=>∃ v0_:Value,e= .returned (.tuple #[v0_,.int .i64 r2])∧Kd.R k53 53 w' w.heap.size (fun _=>True) v0_ r1∧Below w.heap.size w w':=by
 have HR0:=m0 hr0;have HC0:=m0 hc0;clear hr0 hc0;have HB:=m0 (Below.refl w.heap.size w);unfold L_Undone.f at H;replace H:=oa H;obtain⟨⟨t187,t190⟩,A3,H⟩:=H;(try dsimp only at H);replace H:=oa H;obtain⟨t191,A4,H⟩:=H;(try dsimp only at H);obtain⟨y192,hy192⟩:∃ y_:List Int,y_=(([t190,t191]:List Int)):=⟨_,rfl⟩;replace H:((L_first.f k y192).bind fun t195=>(if t195=0 then((L_profile_shares.f k t187 a1).bind fun bt196=>(some (bt196.1,bt196.2)))else(some (([]:List (S53)),t195))))=some (r1,r2):=by first|(rw[hy192];with_reducible exact H)|(have H2_:=(Option.bind_some _ _).symm.trans H;rw[hy192];with_reducible exact H2_)|(have H2_:=(Option.bind_some _ _).symm.trans H;with_reducible exact H2_)|with_reducible exact H|(rw[hy192];exact H)|exact H
 have Ny192:=m0 hy192;clear hy192;replace H:=oa H;obtain⟨t195,A5,H⟩:=H;(try dsimp only at H)
 by_cases c6:t195=0
 ·rw [if_pos c6]at H;have c6b0:=beq_iff_eq.mpr c6;have c6b1:=bne_eq_false_iff_eq.mpr c6;clear c6;replace H:=oa H;obtain⟨⟨t196,t197⟩,A7,H⟩:=H;(try dsimp only at H);simp only[Option.some.injEq,Prod.mk.injEq]at H;obtain⟨rfl,rfl⟩:=H;go_enter Try.func13,Try.ntmps13
  go_wp2_with (first|((with_reducible refine gc 18 rfl ?_);refine gl (some 10) Try.func18 #[.slice A0 l0.length c0] ?_;(with_reducible refine(L_open.calls k (fun k_=>k_<w.heap.size) _ _ l0 t187 t190 _ ?side1 A3.out).mono ?_);(case side1=>exact Kd.V_mk HC0.out (Kd.F_below (Kd.C_F (Kd.heap_int .i64) HR0.out) bz));rintro e w8 ⟨v188,rfl,ho0,hb⟩;refine⟨_,rfl,?_⟩;have HO189:=hv w (fun k_=>True) ho0 (fun k_ hk_=>trivial);replace HB:=sb HB hb;(try clear hb);(try clear ho0))|((with_reducible refine gc 37 rfl ?_);refine gl (some 15) Try.func37 #[.int .i64 a1] ?_;(with_reducible refine(L_constantErr.calls a1 t191 _ A4.out).mono ?_);rintro e w' ⟨rfl,⟨nd,rfl⟩⟩;refine⟨_,rfl,?_⟩)|((with_reducible refine ga 16 rfl ?_);refine Kd.R_lit (Kd.int .i64) _ 30 ?hg (N:=16) ?hd (xs:=([t190,t191]:List Int)) (inner:=[.int .i64 t190,.int .i64 t191]) (ok:=fun _=>True) (okp:=fun _=>True) ?hr ?hp (fun _ hk=>hk) trivial (Below.refl _ _) (Nat.le_refl _) (by simp) ?_;(case hd=>rfl);(case hg=>rfl);(case hr=>first|(go_simp;done)|(go_simp;rfl));(case hp=>exact(Reps.one (ki t190) (Reps.one (ki t191) (Reps.none _ _))));intro v193 w9 ho10 hb hg_ hnew_;clear hg_ hnew_;(first|rw[← Ny192.out]at ho10|(simp only[Int.reduceToNat]at ho10;rw[← Ny192.out]at ho10));replace HO189:=m0 (Kd.V_elder' (by(with_reducible repeat(first|apply Kd.V_alloc|apply Kd.V_drewN|apply Kd.V_drew));exact HO189.out) (Kd.R_base ho10) hb);have HO194:=m0 (Kd.R_lower ho10 (below_size bz));replace HB:=sb HB hb;clear hb ho10;obtain⟨Ao11,co11,eo11⟩:=Kd.R_slice HO194.out;subst eo11)|((with_reducible refine gc 21 rfl ?_);refine gl (some 17) Try.func21 #[.slice Ao11 y192.length co11] ?_;(with_reducible refine(L_first.calls k _ _ y192 t195 _ ?side1 ?side2 A5.out).mono ?_);(case side1=>exact bc (Kd.R_reads' HO194.out).2.2);(case side2=>exact(Kd.R_reads' HO194.out).2.1);rintro e w' ⟨rfl,⟨nd,rfl⟩⟩;refine⟨_,rfl,?_⟩;obtain⟨Ao12,co12,eo12⟩:=Kd.V_slice HO189.out;subst eo12)|((with_reducible refine gc 38 rfl ?_);refine gl (some 23) Try.func38 #[.slice Ao12 t187.length co12,.int .i64 a1] ?_;(with_reducible refine(L_profile_shares.calls k _ _ t187 a1 t196 t197 _ ?side1 ?side2 A7.out).mono ?_);(case side1=>exact bc (Kd.V_reads' HO189.out).2.2);(case side2=>exact(Kd.V_reads' HO189.out).2.1);rintro e w13 ⟨v198,rfl,ho0,hb⟩;refine⟨_,rfl,?_⟩;replace HO189:=m0 (Kd.V_elder' (by(with_reducible repeat(first|apply Kd.V_alloc|apply Kd.V_drewN|apply Kd.V_drew));exact HO189.out) (Kd.R_base ho0) hb);replace HO194:=rb HO194 hb;have HO199:=m0 (Kd.R_lower ho0 (below_size bz));replace HB:=sb HB hb;(try clear hb);(try clear ho0)))
  go_ret2
  exact⟨_,by first|rfl|(simp[errW_none,errW_some]<;>rfl)|(simp[*,errW_none,errW_some]<;>rfl),by(with_reducible repeat(first|apply Kd.R_alloc|apply Kd.R_drewN|apply Kd.R_drew));exact HO199.out,by repeat(first|(with_reducible first|exact HB.out|apply below_alloc|apply pw_below_drewN|apply below_drew1)|exact HB.out)⟩
 ·rw [if_neg c6]at H;have c6b0:=beq_eq_false_iff_ne.mpr c6;have c6b1:=bne_iff_ne.mpr c6;simp only[Option.some.injEq,Prod.mk.injEq]at H;obtain⟨rfl,rfl⟩:=H;go_enter Try.func13,Try.ntmps13
  go_wp2_with (first|((with_reducible refine gc 18 rfl ?_);refine gl (some 10) Try.func18 #[.slice A0 l0.length c0] ?_;(with_reducible refine(L_open.calls k (fun k_=>k_<w.heap.size) _ _ l0 t187 t190 _ ?side1 A3.out).mono ?_);(case side1=>exact Kd.V_mk HC0.out (Kd.F_below (Kd.C_F (Kd.heap_int .i64) HR0.out) bz));rintro e w14 ⟨v188,rfl,ho0,hb⟩;refine⟨_,rfl,?_⟩;have HO189:=hv w (fun k_=>True) ho0 (fun k_ hk_=>trivial);replace HB:=sb HB hb;(try clear hb);(try clear ho0))|((with_reducible refine gc 37 rfl ?_);refine gl (some 15) Try.func37 #[.int .i64 a1] ?_;(with_reducible refine(L_constantErr.calls a1 t191 _ A4.out).mono ?_);rintro e w' ⟨rfl,⟨nd,rfl⟩⟩;refine⟨_,rfl,?_⟩)|((with_reducible refine ga 16 rfl ?_);refine Kd.R_lit (Kd.int .i64) _ 30 ?hg (N:=16) ?hd (xs:=([t190,t191]:List Int)) (inner:=[.int .i64 t190,.int .i64 t191]) (ok:=fun _=>True) (okp:=fun _=>True) ?hr ?hp (fun _ hk=>hk) trivial (Below.refl _ _) (Nat.le_refl _) (by simp) ?_;(case hd=>rfl);(case hg=>rfl);(case hr=>first|(go_simp;done)|(go_simp;rfl));(case hp=>exact(Reps.one (ki t190) (Reps.one (ki t191) (Reps.none _ _))));intro v193 w15 ho16 hb hg_ hnew_;clear hg_ hnew_;(first|rw[← Ny192.out]at ho16|(simp only[Int.reduceToNat]at ho16;rw[← Ny192.out]at ho16));replace HO189:=m0 (Kd.V_elder' (by(with_reducible repeat(first|apply Kd.V_alloc|apply Kd.V_drewN|apply Kd.V_drew));exact HO189.out) (Kd.R_base ho16) hb);have HO194:=m0 (Kd.R_lower ho16 (below_size bz));replace HB:=sb HB hb;clear hb ho16;obtain⟨Ao17,co17,eo17⟩:=Kd.R_slice HO194.out;subst eo17)|((with_reducible refine gc 21 rfl ?_);refine gl (some 17) Try.func21 #[.slice Ao17 y192.length co17] ?_;(with_reducible refine(L_first.calls k _ _ y192 t195 _ ?side1 ?side2 A5.out).mono ?_);(case side1=>exact bc (Kd.R_reads' HO194.out).2.2);(case side2=>exact(Kd.R_reads' HO194.out).2.1);rintro e w' ⟨rfl,⟨nd,rfl⟩⟩;refine⟨_,rfl,?_⟩))
  go_ret2
  exact⟨_,by first|rfl|(simp[errW_none,errW_some]<;>rfl)|(simp[*,errW_none,errW_some]<;>rfl),by first|exact Kd.R_nil _ _ _ _ _|exact Kd.N_nil _ _ _ _ _|exact Kd.V_nil _ _ _ _ _|exact Kd.Q_nil _ _ _ _ _|exact Kd.S_nil _ _ _ _ _,by repeat(first|(with_reducible first|exact HB.out|apply below_alloc|apply pw_below_drewN|apply below_drew1)|exact HB.out)⟩
end
section
def Lw_Layers.f  :Option ((List (S42))):=some (([(⟨500,800,3⟩:S42),(⟨300,400,2⟩:S42),(⟨900,1000,4⟩:S42)]:List (S42)))
theorem Lw_Layers.calls  (r:List (S42)) (w:World) (H:Lw_Layers.f  =some r):
  Calls Try.prog 14 #[] w fun e w'=>∃ v0_:Value,e= .returned (v0_)∧Kd.R k42 42 w' w.heap.size (fun _=>True) v0_ r∧Below w.heap.size w w':=by
 have hu42:=Try.underlying42;have HB:=m0 (Below.refl w.heap.size w);unfold Lw_Layers.f at H;obtain⟨y200,hy200⟩:∃ y_:List (S42),y_=(([(⟨500,800,3⟩:S42),(⟨300,400,2⟩:S42),(⟨900,1000,4⟩:S42)]:List (S42))):=⟨_,rfl⟩;replace H:(some y200)=some r:=by first|(rw[hy200];with_reducible exact H)|(have H2_:=(Option.bind_some _ _).symm.trans H;rw[hy200];with_reducible exact H2_)|(have H2_:=(Option.bind_some _ _).symm.trans H;with_reducible exact H2_)|with_reducible exact H|(rw[hy200];exact H)|exact H
 have Ny200:=m0 hy200;clear hy200;obtain rfl:=Option.some.inj H;go_enter Try.func14,Try.ntmps14
 go_wp2_with (first|((with_reducible refine ga 4 rfl ?_);refine Kd.R_lit k42 _ 42 ?hg (N:=4) ?hd (xs:=([(⟨500,800,3⟩:S42),(⟨300,400,2⟩:S42),(⟨900,1000,4⟩:S42)]:List (S42))) (inner:=[.int .i64 500,.int .i64 800,.int .i64 3,.int .i64 300,.int .i64 400,.int .i64 2,.int .i64 900,.int .i64 1000,.int .i64 4]) (ok:=fun _=>True) (okp:=fun _=>True) ?hr ?hp (fun _ hk=>hk) trivial (Below.refl _ _) (Nat.le_refl _) (by simp) ?_;(case hd=>rfl);(case hg=>rfl);(case hr=>first|(go_simp;done)|(go_simp;rfl));(case hp=>exact(Reps.c3 (show Kd.M k42 _ _ _ (⟨500,800,3⟩:S42) [.int .i64 500,.int .i64 800,.int .i64 3]from(k42_mkM _ _ _ (⟨500,800,3⟩:S42) )) (Reps.c3 (show Kd.M k42 _ _ _ (⟨300,400,2⟩:S42) [.int .i64 300,.int .i64 400,.int .i64 2]from(k42_mkM _ _ _ (⟨300,400,2⟩:S42) )) (Reps.c3 (show Kd.M k42 _ _ _ (⟨900,1000,4⟩:S42) [.int .i64 900,.int .i64 1000,.int .i64 4]from(k42_mkM _ _ _ (⟨900,1000,4⟩:S42) )) (Reps.none _ _)))));intro v201 w1 ho2 hb hg_ hnew_;clear hg_ hnew_;(first|rw[← Ny200.out]at ho2|(simp only[Int.reduceToNat]at ho2;rw[← Ny200.out]at ho2));have HO202:=m0 (Kd.R_lower ho2 (below_size bz));replace HB:=sb HB hb;clear hb ho2))
 go_ret
 exact⟨_,by first|rfl|(simp[errW_none,errW_some]<;>rfl)|(simp[*,errW_none,errW_some]<;>rfl),by(with_reducible repeat(first|apply Kd.R_alloc|apply Kd.R_drewN|apply Kd.R_drew));exact HO202.out,by repeat(first|(with_reducible first|exact HB.out|apply below_alloc|apply pw_below_drewN|apply below_drew1)|exact HB.out)⟩
end
section
theorem eqA53 (d:Nat) (w:World) (x0 y0:Int) (x1 y1:Int):
  (Op.equalIn (d+2) 53 (.agg #[.int .i64 x0,.int .i64 x1]) (.agg #[.int .i64 y0,.int .i64 y1])).run Try.prog w= .ok (x0==y0 && (x1==y1)) w:=by
 refine eqA_of Try.underlying53 (by kernel_rfl) ?_;refine eqf_cons (by rfl) (by go_simp;rfl) (by go_simp;rfl) (by go_simp) ?_;exact eqf_last (by rfl) (by go_simp;rfl) (by go_simp;rfl) (by go_simp)
end
section
attribute [local go_sem high] eqA53
def Bs_Fracs.l0:Nat→List (S53)→List (S53)→Int→Option (Bool)
 |0,_,_,_=>none
 |k+1,x0,x1,x5=>if x5<(x0.length:Int)then(if 0≤x5 then(if x5<(x1.length:Int)then(if(!(((rd_T53 x0 x5).f0)==((rd_T53 x1 x5).f0)) || (!(((rd_T53 x0 x5).f1)==((rd_T53 x1 x5).f1))))=true then(some false)else(Bs_Fracs.l0 k x0 x1 (wrap64 (x5+1))))else(none))else(none))else(some true)
def Bs_Fracs.f (k:Nat) (l0:List (S53)) (l1:List (S53)):Option (Bool):=if(l0.length:Int)=(l1.length:Int)then(Bs_Fracs.l0 k l0 l1 0)else(some false)
theorem Bs_Fracs.mono_l:∀ k,(∀ y0 y1 y2,LeO (Bs_Fracs.l0 k y0 y1 y2) (Bs_Fracs.l0 (k+1) y0 y1 y2))
 |0=>fun _ _ _ r h=>by simp[Bs_Fracs.l0]at h
 | k+1=>by
  have ih0:=Bs_Fracs.mono_l k
  ·intro y0 y1 y2;unfold Bs_Fracs.l0
   repeat' with_reducible first
    |exact ih0 ..
    |exact LeO.refl ..
    |exact LeO.none ..
    |refine LeO.ite ?_ ?_
    |refine LeO.bind ?_ (fun _=>?_)
theorem Bs_Fracs.mono:∀ a0 a1 k,LeO (Bs_Fracs.f k a0 a1) (Bs_Fracs.f (k+1) a0 a1):=by
 intro a0 a1 k;have ih0:=Bs_Fracs.mono_l k;unfold Bs_Fracs.f
 repeat' with_reducible first
  |exact ih0 ..
  |exact LeO.refl ..
  |exact LeO.none ..
  |refine LeO.ite ?_ ?_
  |refine LeO.bind ?_ (fun _=>?_)
theorem Bs_Fracs.calls (k:Nat) (A0:Option Addr) (c0:Nat) (l0:List (S53)) (A1:Option Addr) (c1:Nat) (l1:List (S53)) (r:Bool) (w:World) (hr0:Kd.C k53 w A0 l0.length l0) (hc0:l0.length≤c0) (hr1:Kd.C k53 w A1 l1.length l1) (hc1:l1.length≤c1) (H:Bs_Fracs.f k l0 l1=some r):
  Calls Try.prog 15 #[.slice A0 l0.length c0,.slice A1 l1.length c1] w fun e w'=>e= .returned (.bool r)∧Drawn0 w w':=by
 have hu53:=Try.underlying53;have HR0:=m0 hr0;have HC0:=m0 hc0;clear hr0 hc0;have HR1:=m0 hr1;have HC1:=m0 hc1;clear hr1 hc1;unfold Bs_Fracs.f at H
 by_cases c3:(l0.length:Int)=(l1.length:Int)
 ·rw [if_pos c3]at H;have c3b0:=beq_iff_eq.mpr c3;have c3b1:=bne_eq_false_iff_eq.mpr c3;have c3b2:(l0.length==l1.length)=true:=by first|simpa using c3|(simp at c3 ⊢;omega)
  clear c3;have H':=m0 H;clear H;go_enter Try.func15,Try.ntmps15
  go_wp2
  repeat(go_quiet (fail);try go_wp2)
  go_loopg [5] k (fun kq v5 w'=>∃ (x5_1:Int),v5= .int .i64 x5_1∧Aside0 (Bs_Fracs.l0 kq l0 l1 x5_1=some r)∧Aside0 (kq≤k)∧Drawn0 w w')
  case atStart=>exact⟨(0),rz,H',⟨Nat.le_refl _⟩,by repeat(first|exact Drawn0.refl _|apply Drawn0.step)⟩
  case round=>
   clear H';obtain⟨x5_1,rfl,HA,HK1,⟨m1,rfl⟩⟩:=hrel
   cases gk with
   |zero=>exact absurd HA.out (by simp[Bs_Fracs.l0])
   | succ k1=>
    have H:=HA.out;clear HA;simp only[Bs_Fracs.l0]at H
    by_cases c4:x5_1<(l0.length:Int)
    ·rw [if_pos c4]at H;have c4b0:=decide_eq_true c4;clear c4
     by_cases c5:0≤x5_1
     ·rw [if_pos c5]at H;have c5b0:=decide_eq_true c5;clear c5
      by_cases c6:x5_1<(l1.length:Int)
      ·rw [if_pos c6]at H;have c6b0:=decide_eq_true c6;clear c6
       by_cases c7:(!(((rd_T53 l0 x5_1).f0)==((rd_T53 l1 x5_1).f0)) || (!(((rd_T53 l0 x5_1).f1)==((rd_T53 l1 x5_1).f1))))=true
       ·rw [if_pos c7]at H;have c7b0:(!(((rd_T53 l0 x5_1).f0)==((rd_T53 l1 x5_1).f0)) || (!(((rd_T53 l0 x5_1).f1)==((rd_T53 l1 x5_1).f1))))=true:=c7;clear c7;obtain rfl:=Option.some.inj H;have p203:0≤(x5_1:Int):=od;have q203:x5_1<(l0.length:Int):=od;obtain⟨ad203,e203,hx203_0,hx203_1⟩:=at_T53 HR0.out x5_1 p203 q203
        cases e203
        replace p203:=eq_true p203;replace q203:=eq_true q203;have p204:0≤(x5_1:Int):=od;have q204:x5_1<(l1.length:Int):=od;obtain⟨ad204,e204,hx204_0,hx204_1⟩:=at_T53 HR1.out x5_1 p204 q204
        cases e204
        replace p204:=eq_true p204;replace q204:=eq_true q204
        go_wp2
        repeat(go_quiet (fail);try go_wp2)
        go_ret
        exact⟨rz,by repeat(first|exact Drawn0.refl _|apply Drawn0.step)⟩
       ·rw [if_neg c7]at H;have c7b0:(!(((rd_T53 l0 x5_1).f0)==((rd_T53 l1 x5_1).f0)) || (!(((rd_T53 l0 x5_1).f1)==((rd_T53 l1 x5_1).f1))))=false:=by simpa using c7
        clear c7;have H':=m0 H;clear H;have p203:0≤(x5_1:Int):=od;have q203:x5_1<(l0.length:Int):=od;obtain⟨ad203,e203,hx203_0,hx203_1⟩:=at_T53 HR0.out x5_1 p203 q203
        cases e203
        replace p203:=eq_true p203;replace q203:=eq_true q203;have p204:0≤(x5_1:Int):=od;have q204:x5_1<(l1.length:Int):=od;obtain⟨ad204,e204,hx204_0,hx204_1⟩:=at_T53 HR1.out x5_1 p204 q204
        cases e204
        replace p204:=eq_true p204;replace q204:=eq_true q204
        go_wp2
        repeat(go_quiet (fail);try go_wp2)
        go_roundg k1
        case measure=>have:=HK1.out;omega
        case rel=>exact⟨(wrap64 (x5_1+1)),rz,H',⟨by have:=HK1.out;omega⟩,by repeat(first|exact Drawn0.refl _|apply Drawn0.step)⟩
      ·rw [if_neg c6]at H;exact absurd H (by simp)
     ·rw [if_neg c5]at H;exact absurd H (by simp)
    ·rw [if_neg c4]at H;have c4b0:=decide_eq_false c4;clear c4;obtain rfl:=Option.some.inj H
     go_wp2
     repeat(go_quiet (fail);try go_wp2)
     go_ret
     exact⟨rz,by repeat(first|exact Drawn0.refl _|apply Drawn0.step)⟩
 ·rw [if_neg c3]at H;have c3b0:=beq_eq_false_iff_ne.mpr c3;have c3b1:=bne_iff_ne.mpr c3;have c3b2:(l0.length==l1.length)=false:=by first|simpa using c3|(simp at c3 ⊢;omega)
  obtain rfl:=Option.some.inj H;go_enter Try.func15,Try.ntmps15
  go_wp2
  repeat(go_quiet (fail);try go_wp2)
  go_ret
  exact⟨rz,by repeat(first|exact Drawn0.refl _|apply Drawn0.step)⟩
end
section
def glidepathtop_cloudShown.f (k:Nat)  :Option (Bool):=(L_Undone.f k (([10,0,45,45]:List Int)) 100).bind fun bt208=>((Lw_Layers.f).bind fun t212=>((L_CeilingOf.f k t212 5).bind fun bt215=>(if bt208.2=0 then((Bs_Fracs.f k bt208.1 (([(⟨1,10⟩:S53),(⟨0,1⟩:S53),(⟨1,2⟩:S53),(⟨1,1⟩:S53)]:List (S53)))).bind fun t220=>(if t220=true then(if bt215.2=0 then(some (bt215.1==500))else(some false))else(some false)))else(some false))))
theorem glidepathtop_cloudShown.mono:∀ k,LeO (glidepathtop_cloudShown.f k ) (glidepathtop_cloudShown.f (k+1) ):=by
 intro  k;unfold glidepathtop_cloudShown.f
 repeat' with_reducible first
  |exact L_CeilingOf.mono ..
  |exact L_Undone.mono ..
  |exact Bs_Fracs.mono ..
  |exact LeO.refl ..
  |exact LeO.none ..
  |refine LeO.ite ?_ ?_
  |refine LeO.bind ?_ (fun _=>?_)
theorem glidepathtop_cloudShown.calls (k:Nat)  (r:Bool) (w:World) (H:glidepathtop_cloudShown.f k  =some r):
  Calls Try.prog 4 #[] w fun e w'=>e= .returned (.bool r)∧Below w.heap.size w w':=by
 have hu53:=Try.underlying53;have HB:=m0 (Below.refl w.heap.size w);unfold glidepathtop_cloudShown.f at H;obtain⟨y205,hy205⟩:∃ y_:List Int,y_=(([10,0,45,45]:List Int)):=⟨_,rfl⟩;replace H:((L_Undone.f k y205 100).bind fun bt208=>((Lw_Layers.f).bind fun t212=>((L_CeilingOf.f k t212 5).bind fun bt215=>(if bt208.2=0 then((Bs_Fracs.f k bt208.1 (([(⟨1,10⟩:S53),(⟨0,1⟩:S53),(⟨1,2⟩:S53),(⟨1,1⟩:S53)]:List (S53)))).bind fun t220=>(if t220=true then(if bt215.2=0 then(some (bt215.1==500))else(some false))else(some false)))else(some false)))))=some r:=by first|(rw[hy205];with_reducible exact H)|(have H2_:=(Option.bind_some _ _).symm.trans H;rw[hy205];with_reducible exact H2_)|(have H2_:=(Option.bind_some _ _).symm.trans H;with_reducible exact H2_)|with_reducible exact H|(rw[hy205];exact H)|exact H
 have Ny205:=m0 hy205;clear hy205;replace H:=oa H;obtain⟨⟨t208,t209⟩,A1,H⟩:=H;(try dsimp only at H);replace H:=oa H;obtain⟨t212,A2,H⟩:=H;(try dsimp only at H);replace H:=oa H;obtain⟨⟨t215,t216⟩,A3,H⟩:=H;(try dsimp only at H)
 by_cases c4:t209=0
 ·rw [if_pos c4]at H;have c4b0:=beq_iff_eq.mpr c4;have c4b1:=bne_eq_false_iff_eq.mpr c4;clear c4;obtain⟨y217,hy217⟩:∃ y_:List (S53),y_=(([(⟨1,10⟩:S53),(⟨0,1⟩:S53),(⟨1,2⟩:S53),(⟨1,1⟩:S53)]:List (S53))):=⟨_,rfl⟩;replace H:((Bs_Fracs.f k t208 y217).bind fun t220=>(if t220=true then(if t216=0 then(some (t215==500))else(some false))else(some false)))=some r:=by first|(rw[hy217];with_reducible exact H)|(have H2_:=(Option.bind_some _ _).symm.trans H;rw[hy217];with_reducible exact H2_)|(have H2_:=(Option.bind_some _ _).symm.trans H;with_reducible exact H2_)|with_reducible exact H|(rw[hy217];exact H)|exact H
  have Ny217:=m0 hy217;clear hy217;replace H:=oa H;obtain⟨t220,A5,H⟩:=H;(try dsimp only at H)
  by_cases c6:t220=true
  ·subst c6;rw[if_pos rfl]at H
   by_cases c7:t216=0
   ·rw [if_pos c7]at H;have c7b0:=beq_iff_eq.mpr c7;have c7b1:=bne_eq_false_iff_eq.mpr c7;clear c7;obtain rfl:=Option.some.inj H;go_enter Try.func4,Try.ntmps4
    go_wp2_with (first|((with_reducible refine ga 6 rfl ?_);(try(refine gate_guard (by rfl) ?_;dsimp only));refine Kd.R_lit (Kd.int .i64) _ 3 ?hg (N:=6) ?hd (xs:=([10,0,45,45]:List Int)) (inner:=[.int .i64 10,.int .i64 0,.int .i64 45,.int .i64 45]) (ok:=fun _=>True) (okp:=fun _=>True) ?hr ?hp (fun _ hk=>hk) trivial (Below.refl _ _) (Nat.le_refl _) (by simp) ?_;(case hd=>rfl);(case hg=>rfl);(case hr=>first|(go_simp;done)|(go_simp;rfl));(case hp=>exact(Reps.one (ki 10) (Reps.one (ki 0) (Reps.one (ki 45) (Reps.one (ki 45) (Reps.none _ _))))));intro v206 w8 ho9 hb hg_ hnew_;clear hg_ hnew_;(first|rw[← Ny205.out]at ho9|(simp only[Int.reduceToNat]at ho9;rw[← Ny205.out]at ho9));have HO207:=m0 (Kd.R_lower ho9 (below_size bz));replace HB:=sb HB hb;clear hb ho9;obtain⟨Ao10,co10,eo10⟩:=Kd.R_slice HO207.out;subst eo10)|((with_reducible refine gc 13 rfl ?_);refine gl (some 7) Try.func13 #[.slice Ao10 y205.length co10,.int .i64 100] ?_;(with_reducible refine(L_Undone.calls k _ _ y205 100 t208 t209 _ ?side1 ?side2 A1.out).mono ?_);(case side1=>exact bc (Kd.R_reads' HO207.out).2.2);(case side2=>exact(Kd.R_reads' HO207.out).2.1);rintro e w11 ⟨v210,rfl,ho0,hb⟩;refine⟨_,rfl,?_⟩;replace HO207:=rb HO207 hb;have HO211:=m0 (Kd.R_lower ho0 (below_size bz));replace HB:=sb HB hb;(try clear hb);(try clear ho0))|((with_reducible refine gc 14 rfl ?_);refine gl (some 11) Try.func14 #[] ?_;(with_reducible refine(Lw_Layers.calls  t212 _ A2.out).mono ?_);rintro e w12 ⟨v213,rfl,ho0,hb⟩;refine⟨_,rfl,?_⟩;replace HO207:=rb HO207 hb;replace HO211:=rb HO211 hb;have HO214:=m0 (Kd.R_lower ho0 (below_size bz));replace HB:=sb HB hb;(try clear hb);(try clear ho0);obtain⟨Ao13,co13,eo13⟩:=Kd.R_slice HO214.out;subst eo13)|((with_reducible refine gc 11 rfl ?_);refine gl (some 12) Try.func11 #[.slice Ao13 t212.length co13,.int .i64 5] ?_;(with_reducible refine(L_CeilingOf.calls k _ _ t212 5 t215 t216 _ ?side1 ?side2 A3.out).mono ?_);(case side1=>exact bc (Kd.R_reads' HO214.out).2.2);(case side2=>exact(Kd.R_reads' HO214.out).2.1);rintro e w14 ⟨rfl,hb⟩;refine⟨_,rfl,?_⟩;replace HO207:=rb HO207 hb;replace HO211:=rb HO211 hb;replace HO214:=rb HO214 hb;replace HB:=sb HB hb;(try clear hb))|((with_reducible refine ga 23 rfl ?_);(try(refine gate_guard (by rfl) ?_;dsimp only));refine Kd.R_lit k53 _ 53 ?hg (N:=23) ?hd (xs:=([(⟨1,10⟩:S53),(⟨0,1⟩:S53),(⟨1,2⟩:S53),(⟨1,1⟩:S53)]:List (S53))) (inner:=[.int .i64 1,.int .i64 10,.int .i64 0,.int .i64 1,.int .i64 1,.int .i64 2,.int .i64 1,.int .i64 1]) (ok:=fun _=>True) (okp:=fun _=>True) ?hr ?hp (fun _ hk=>hk) trivial (Below.refl _ _) (Nat.le_refl _) (by simp) ?_;(case hd=>rfl);(case hg=>rfl);(case hr=>first|(go_simp;done)|(go_simp;rfl));(case hp=>exact(Reps.c2 (show Kd.M k53 _ _ _ (⟨1,10⟩:S53) [.int .i64 1,.int .i64 10]from(k53_mkM _ _ _ (⟨1,10⟩:S53) )) (Reps.c2 (show Kd.M k53 _ _ _ (⟨0,1⟩:S53) [.int .i64 0,.int .i64 1]from(k53_mkM _ _ _ (⟨0,1⟩:S53) )) (Reps.c2 (show Kd.M k53 _ _ _ (⟨1,2⟩:S53) [.int .i64 1,.int .i64 2]from(k53_mkM _ _ _ (⟨1,2⟩:S53) )) (Reps.c2 (show Kd.M k53 _ _ _ (⟨1,1⟩:S53) [.int .i64 1,.int .i64 1]from(k53_mkM _ _ _ (⟨1,1⟩:S53) )) (Reps.none _ _))))));intro v218 w15 ho16 hb hg_ hnew_;clear hg_ hnew_;(first|rw[← Ny217.out]at ho16|(simp only[Int.reduceToNat]at ho16;rw[← Ny217.out]at ho16));replace HO207:=rb HO207 hb;replace HO214:=rb HO214 hb;have HO219:=m0 (Kd.R_lower (Kd.R_new' ho16 (Kd.R_lt (br HO211.out))) (below_size bz));replace HO211:=m0 (Kd.R_elder' (br HO211.out) (Kd.R_base ho16) hb);replace HB:=sb HB hb;clear hb ho16;obtain⟨Ao17,co17,eo17⟩:=Kd.R_slice HO211.out;subst eo17;obtain⟨Ao18,co18,eo18⟩:=Kd.R_slice HO219.out;subst eo18)|(go_at_call 15;(with_reducible refine(Bs_Fracs.calls k _ _ t208 _ _ y217 true _ ?side1 ?side2 ?side3 ?side4 A5.out).mono ?_);(case side1=>exact bc (Kd.R_reads' HO211.out).2.2);(case side2=>exact(Kd.R_reads' HO211.out).2.1);(case side3=>exact bc (Kd.R_reads' HO219.out).2.2);(case side4=>exact(Kd.R_reads' HO219.out).2.1);rintro e w' ⟨rfl,⟨nd,rfl⟩⟩))
    go_ret
    exact ez
   ·rw [if_neg c7]at H;have c7b0:=beq_eq_false_iff_ne.mpr c7;have c7b1:=bne_iff_ne.mpr c7;obtain rfl:=Option.some.inj H;go_enter Try.func4,Try.ntmps4
    go_wp2_with (first|((with_reducible refine ga 6 rfl ?_);(try(refine gate_guard (by rfl) ?_;dsimp only));refine Kd.R_lit (Kd.int .i64) _ 3 ?hg (N:=6) ?hd (xs:=([10,0,45,45]:List Int)) (inner:=[.int .i64 10,.int .i64 0,.int .i64 45,.int .i64 45]) (ok:=fun _=>True) (okp:=fun _=>True) ?hr ?hp (fun _ hk=>hk) trivial (Below.refl _ _) (Nat.le_refl _) (by simp) ?_;(case hd=>rfl);(case hg=>rfl);(case hr=>first|(go_simp;done)|(go_simp;rfl));(case hp=>exact(Reps.one (ki 10) (Reps.one (ki 0) (Reps.one (ki 45) (Reps.one (ki 45) (Reps.none _ _))))));intro v206 w19 ho20 hb hg_ hnew_;clear hg_ hnew_;(first|rw[← Ny205.out]at ho20|(simp only[Int.reduceToNat]at ho20;rw[← Ny205.out]at ho20));have HO207:=m0 (Kd.R_lower ho20 (below_size bz));replace HB:=sb HB hb;clear hb ho20;obtain⟨Ao21,co21,eo21⟩:=Kd.R_slice HO207.out;subst eo21)|((with_reducible refine gc 13 rfl ?_);refine gl (some 7) Try.func13 #[.slice Ao21 y205.length co21,.int .i64 100] ?_;(with_reducible refine(L_Undone.calls k _ _ y205 100 t208 t209 _ ?side1 ?side2 A1.out).mono ?_);(case side1=>exact bc (Kd.R_reads' HO207.out).2.2);(case side2=>exact(Kd.R_reads' HO207.out).2.1);rintro e w22 ⟨v210,rfl,ho0,hb⟩;refine⟨_,rfl,?_⟩;replace HO207:=rb HO207 hb;have HO211:=m0 (Kd.R_lower ho0 (below_size bz));replace HB:=sb HB hb;(try clear hb);(try clear ho0))|((with_reducible refine gc 14 rfl ?_);refine gl (some 11) Try.func14 #[] ?_;(with_reducible refine(Lw_Layers.calls  t212 _ A2.out).mono ?_);rintro e w23 ⟨v213,rfl,ho0,hb⟩;refine⟨_,rfl,?_⟩;replace HO207:=rb HO207 hb;replace HO211:=rb HO211 hb;have HO214:=m0 (Kd.R_lower ho0 (below_size bz));replace HB:=sb HB hb;(try clear hb);(try clear ho0);obtain⟨Ao24,co24,eo24⟩:=Kd.R_slice HO214.out;subst eo24)|((with_reducible refine gc 11 rfl ?_);refine gl (some 12) Try.func11 #[.slice Ao24 t212.length co24,.int .i64 5] ?_;(with_reducible refine(L_CeilingOf.calls k _ _ t212 5 t215 t216 _ ?side1 ?side2 A3.out).mono ?_);(case side1=>exact bc (Kd.R_reads' HO214.out).2.2);(case side2=>exact(Kd.R_reads' HO214.out).2.1);rintro e w25 ⟨rfl,hb⟩;refine⟨_,rfl,?_⟩;replace HO207:=rb HO207 hb;replace HO211:=rb HO211 hb;replace HO214:=rb HO214 hb;replace HB:=sb HB hb;(try clear hb))|((with_reducible refine ga 23 rfl ?_);(try(refine gate_guard (by rfl) ?_;dsimp only));refine Kd.R_lit k53 _ 53 ?hg (N:=23) ?hd (xs:=([(⟨1,10⟩:S53),(⟨0,1⟩:S53),(⟨1,2⟩:S53),(⟨1,1⟩:S53)]:List (S53))) (inner:=[.int .i64 1,.int .i64 10,.int .i64 0,.int .i64 1,.int .i64 1,.int .i64 2,.int .i64 1,.int .i64 1]) (ok:=fun _=>True) (okp:=fun _=>True) ?hr ?hp (fun _ hk=>hk) trivial (Below.refl _ _) (Nat.le_refl _) (by simp) ?_;(case hd=>rfl);(case hg=>rfl);(case hr=>first|(go_simp;done)|(go_simp;rfl));(case hp=>exact(Reps.c2 (show Kd.M k53 _ _ _ (⟨1,10⟩:S53) [.int .i64 1,.int .i64 10]from(k53_mkM _ _ _ (⟨1,10⟩:S53) )) (Reps.c2 (show Kd.M k53 _ _ _ (⟨0,1⟩:S53) [.int .i64 0,.int .i64 1]from(k53_mkM _ _ _ (⟨0,1⟩:S53) )) (Reps.c2 (show Kd.M k53 _ _ _ (⟨1,2⟩:S53) [.int .i64 1,.int .i64 2]from(k53_mkM _ _ _ (⟨1,2⟩:S53) )) (Reps.c2 (show Kd.M k53 _ _ _ (⟨1,1⟩:S53) [.int .i64 1,.int .i64 1]from(k53_mkM _ _ _ (⟨1,1⟩:S53) )) (Reps.none _ _))))));intro v218 w26 ho27 hb hg_ hnew_;clear hg_ hnew_;(first|rw[← Ny217.out]at ho27|(simp only[Int.reduceToNat]at ho27;rw[← Ny217.out]at ho27));replace HO207:=rb HO207 hb;replace HO214:=rb HO214 hb;have HO219:=m0 (Kd.R_lower (Kd.R_new' ho27 (Kd.R_lt (br HO211.out))) (below_size bz));replace HO211:=m0 (Kd.R_elder' (br HO211.out) (Kd.R_base ho27) hb);replace HB:=sb HB hb;clear hb ho27;obtain⟨Ao28,co28,eo28⟩:=Kd.R_slice HO211.out;subst eo28;obtain⟨Ao29,co29,eo29⟩:=Kd.R_slice HO219.out;subst eo29)|(go_at_call 15;(with_reducible refine(Bs_Fracs.calls k _ _ t208 _ _ y217 true _ ?side1 ?side2 ?side3 ?side4 A5.out).mono ?_);(case side1=>exact bc (Kd.R_reads' HO211.out).2.2);(case side2=>exact(Kd.R_reads' HO211.out).2.1);(case side3=>exact bc (Kd.R_reads' HO219.out).2.2);(case side4=>exact(Kd.R_reads' HO219.out).2.1);rintro e w' ⟨rfl,⟨nd,rfl⟩⟩))
    go_ret
    exact ez
  ·replace c6:=Bool.eq_false_iff.mpr c6;subst c6;rw[if_neg (show ¬ (false=true) by decide)]at H;obtain rfl:=Option.some.inj H;go_enter Try.func4,Try.ntmps4
   go_wp2_with (first|((with_reducible refine ga 6 rfl ?_);(try(refine gate_guard (by rfl) ?_;dsimp only));refine Kd.R_lit (Kd.int .i64) _ 3 ?hg (N:=6) ?hd (xs:=([10,0,45,45]:List Int)) (inner:=[.int .i64 10,.int .i64 0,.int .i64 45,.int .i64 45]) (ok:=fun _=>True) (okp:=fun _=>True) ?hr ?hp (fun _ hk=>hk) trivial (Below.refl _ _) (Nat.le_refl _) (by simp) ?_;(case hd=>rfl);(case hg=>rfl);(case hr=>first|(go_simp;done)|(go_simp;rfl));(case hp=>exact(Reps.one (ki 10) (Reps.one (ki 0) (Reps.one (ki 45) (Reps.one (ki 45) (Reps.none _ _))))));intro v206 w30 ho31 hb hg_ hnew_;clear hg_ hnew_;(first|rw[← Ny205.out]at ho31|(simp only[Int.reduceToNat]at ho31;rw[← Ny205.out]at ho31));have HO207:=m0 (Kd.R_lower ho31 (below_size bz));replace HB:=sb HB hb;clear hb ho31;obtain⟨Ao32,co32,eo32⟩:=Kd.R_slice HO207.out;subst eo32)|((with_reducible refine gc 13 rfl ?_);refine gl (some 7) Try.func13 #[.slice Ao32 y205.length co32,.int .i64 100] ?_;(with_reducible refine(L_Undone.calls k _ _ y205 100 t208 t209 _ ?side1 ?side2 A1.out).mono ?_);(case side1=>exact bc (Kd.R_reads' HO207.out).2.2);(case side2=>exact(Kd.R_reads' HO207.out).2.1);rintro e w33 ⟨v210,rfl,ho0,hb⟩;refine⟨_,rfl,?_⟩;replace HO207:=rb HO207 hb;have HO211:=m0 (Kd.R_lower ho0 (below_size bz));replace HB:=sb HB hb;(try clear hb);(try clear ho0))|((with_reducible refine gc 14 rfl ?_);refine gl (some 11) Try.func14 #[] ?_;(with_reducible refine(Lw_Layers.calls  t212 _ A2.out).mono ?_);rintro e w34 ⟨v213,rfl,ho0,hb⟩;refine⟨_,rfl,?_⟩;replace HO207:=rb HO207 hb;replace HO211:=rb HO211 hb;have HO214:=m0 (Kd.R_lower ho0 (below_size bz));replace HB:=sb HB hb;(try clear hb);(try clear ho0);obtain⟨Ao35,co35,eo35⟩:=Kd.R_slice HO214.out;subst eo35)|((with_reducible refine gc 11 rfl ?_);refine gl (some 12) Try.func11 #[.slice Ao35 t212.length co35,.int .i64 5] ?_;(with_reducible refine(L_CeilingOf.calls k _ _ t212 5 t215 t216 _ ?side1 ?side2 A3.out).mono ?_);(case side1=>exact bc (Kd.R_reads' HO214.out).2.2);(case side2=>exact(Kd.R_reads' HO214.out).2.1);rintro e w36 ⟨rfl,hb⟩;refine⟨_,rfl,?_⟩;replace HO207:=rb HO207 hb;replace HO211:=rb HO211 hb;replace HO214:=rb HO214 hb;replace HB:=sb HB hb;(try clear hb))|((with_reducible refine ga 23 rfl ?_);(try(refine gate_guard (by rfl) ?_;dsimp only));refine Kd.R_lit k53 _ 53 ?hg (N:=23) ?hd (xs:=([(⟨1,10⟩:S53),(⟨0,1⟩:S53),(⟨1,2⟩:S53),(⟨1,1⟩:S53)]:List (S53))) (inner:=[.int .i64 1,.int .i64 10,.int .i64 0,.int .i64 1,.int .i64 1,.int .i64 2,.int .i64 1,.int .i64 1]) (ok:=fun _=>True) (okp:=fun _=>True) ?hr ?hp (fun _ hk=>hk) trivial (Below.refl _ _) (Nat.le_refl _) (by simp) ?_;(case hd=>rfl);(case hg=>rfl);(case hr=>first|(go_simp;done)|(go_simp;rfl));(case hp=>exact(Reps.c2 (show Kd.M k53 _ _ _ (⟨1,10⟩:S53) [.int .i64 1,.int .i64 10]from(k53_mkM _ _ _ (⟨1,10⟩:S53) )) (Reps.c2 (show Kd.M k53 _ _ _ (⟨0,1⟩:S53) [.int .i64 0,.int .i64 1]from(k53_mkM _ _ _ (⟨0,1⟩:S53) )) (Reps.c2 (show Kd.M k53 _ _ _ (⟨1,2⟩:S53) [.int .i64 1,.int .i64 2]from(k53_mkM _ _ _ (⟨1,2⟩:S53) )) (Reps.c2 (show Kd.M k53 _ _ _ (⟨1,1⟩:S53) [.int .i64 1,.int .i64 1]from(k53_mkM _ _ _ (⟨1,1⟩:S53) )) (Reps.none _ _))))));intro v218 w37 ho38 hb hg_ hnew_;clear hg_ hnew_;(first|rw[← Ny217.out]at ho38|(simp only[Int.reduceToNat]at ho38;rw[← Ny217.out]at ho38));replace HO207:=rb HO207 hb;replace HO214:=rb HO214 hb;have HO219:=m0 (Kd.R_lower (Kd.R_new' ho38 (Kd.R_lt (br HO211.out))) (below_size bz));replace HO211:=m0 (Kd.R_elder' (br HO211.out) (Kd.R_base ho38) hb);replace HB:=sb HB hb;clear hb ho38;obtain⟨Ao39,co39,eo39⟩:=Kd.R_slice HO211.out;subst eo39;obtain⟨Ao40,co40,eo40⟩:=Kd.R_slice HO219.out;subst eo40)|(go_at_call 15;(with_reducible refine(Bs_Fracs.calls k _ _ t208 _ _ y217 false _ ?side1 ?side2 ?side3 ?side4 A5.out).mono ?_);(case side1=>exact bc (Kd.R_reads' HO211.out).2.2);(case side2=>exact(Kd.R_reads' HO211.out).2.1);(case side3=>exact bc (Kd.R_reads' HO219.out).2.2);(case side4=>exact(Kd.R_reads' HO219.out).2.1);rintro e w' ⟨rfl,⟨nd,rfl⟩⟩))
   go_ret
   exact ez
 ·rw [if_neg c4]at H;have c4b0:=beq_eq_false_iff_ne.mpr c4;have c4b1:=bne_iff_ne.mpr c4;obtain rfl:=Option.some.inj H;go_enter Try.func4,Try.ntmps4
  go_wp2_with (first|((with_reducible refine ga 6 rfl ?_);(try(refine gate_guard (by rfl) ?_;dsimp only));refine Kd.R_lit (Kd.int .i64) _ 3 ?hg (N:=6) ?hd (xs:=([10,0,45,45]:List Int)) (inner:=[.int .i64 10,.int .i64 0,.int .i64 45,.int .i64 45]) (ok:=fun _=>True) (okp:=fun _=>True) ?hr ?hp (fun _ hk=>hk) trivial (Below.refl _ _) (Nat.le_refl _) (by simp) ?_;(case hd=>rfl);(case hg=>rfl);(case hr=>first|(go_simp;done)|(go_simp;rfl));(case hp=>exact(Reps.one (ki 10) (Reps.one (ki 0) (Reps.one (ki 45) (Reps.one (ki 45) (Reps.none _ _))))));intro v206 w41 ho42 hb hg_ hnew_;clear hg_ hnew_;(first|rw[← Ny205.out]at ho42|(simp only[Int.reduceToNat]at ho42;rw[← Ny205.out]at ho42));have HO207:=m0 (Kd.R_lower ho42 (below_size bz));replace HB:=sb HB hb;clear hb ho42;obtain⟨Ao43,co43,eo43⟩:=Kd.R_slice HO207.out;subst eo43)|((with_reducible refine gc 13 rfl ?_);refine gl (some 7) Try.func13 #[.slice Ao43 y205.length co43,.int .i64 100] ?_;(with_reducible refine(L_Undone.calls k _ _ y205 100 t208 t209 _ ?side1 ?side2 A1.out).mono ?_);(case side1=>exact bc (Kd.R_reads' HO207.out).2.2);(case side2=>exact(Kd.R_reads' HO207.out).2.1);rintro e w44 ⟨v210,rfl,ho0,hb⟩;refine⟨_,rfl,?_⟩;replace HO207:=rb HO207 hb;have HO211:=m0 (Kd.R_lower ho0 (below_size bz));replace HB:=sb HB hb;(try clear hb);(try clear ho0))|((with_reducible refine gc 14 rfl ?_);refine gl (some 11) Try.func14 #[] ?_;(with_reducible refine(Lw_Layers.calls  t212 _ A2.out).mono ?_);rintro e w45 ⟨v213,rfl,ho0,hb⟩;refine⟨_,rfl,?_⟩;replace HO207:=rb HO207 hb;replace HO211:=rb HO211 hb;have HO214:=m0 (Kd.R_lower ho0 (below_size bz));replace HB:=sb HB hb;(try clear hb);(try clear ho0);obtain⟨Ao46,co46,eo46⟩:=Kd.R_slice HO214.out;subst eo46)|((with_reducible refine gc 11 rfl ?_);refine gl (some 12) Try.func11 #[.slice Ao46 t212.length co46,.int .i64 5] ?_;(with_reducible refine(L_CeilingOf.calls k _ _ t212 5 t215 t216 _ ?side1 ?side2 A3.out).mono ?_);(case side1=>exact bc (Kd.R_reads' HO214.out).2.2);(case side2=>exact(Kd.R_reads' HO214.out).2.1);rintro e w47 ⟨rfl,hb⟩;refine⟨_,rfl,?_⟩;replace HO207:=rb HO207 hb;replace HO211:=rb HO211 hb;replace HO214:=rb HO214 hb;replace HB:=sb HB hb;(try clear hb)))
  go_ret
  exact ez
end
section
def Bs_Within.f (a0:Int) (a1:Int) (a2:Int):Option (Bool):=if a1≤a0 then(some (decide (a0≤a2)))else(some false)
theorem Bs_Within.calls (a0:Int) (a1:Int) (a2:Int) (r:Bool) (w:World) (H:Bs_Within.f a0 a1 a2=some r):
  Calls Try.prog 5 #[.int .i64 a0,.int .i64 a1,.int .i64 a2] w fun e w'=>e= .returned (.bool r)∧Drawn0 w w':=by
 unfold Bs_Within.f at H
 by_cases c4:a1≤a0
 ·rw [if_pos c4]at H;have c4b0:=decide_eq_true c4;clear c4;obtain rfl:=Option.some.inj H;go_enter Try.func5,Try.ntmps5
  go_wp2
  go_ret
  exact⟨rz,by repeat(first|exact Drawn0.refl _|apply Drawn0.step)⟩
 ·rw [if_neg c4]at H;have c4b0:=decide_eq_false c4;clear c4;obtain rfl:=Option.some.inj H;go_enter Try.func5,Try.ntmps5
  go_wp2
  go_ret
  exact⟨rz,by repeat(first|exact Drawn0.refl _|apply Drawn0.step)⟩
end
section
def L_openDivision.f (k:Nat) (l0:List Int) (a1:Int):Option (List Int×Int):=(L_open.f k l0).bind fun bt221=>((L_within.f a1 0 1000000).bind fun t225=>((L_unless.f t225 2).bind fun t226=>((L_first.f k (([bt221.2,t226]:List Int))).bind fun t230=>(some (bt221.1,t230)))))
theorem L_openDivision.mono:∀ a0 a1 k,LeO (L_openDivision.f k a0 a1) (L_openDivision.f (k+1) a0 a1):=by
 intro a0 a1 k;unfold L_openDivision.f
 repeat' with_reducible first
  |exact L_first.mono ..
  |exact L_open.mono ..
  |exact LeO.refl ..
  |exact LeO.none ..
  |refine LeO.ite ?_ ?_
  |refine LeO.bind ?_ (fun _=>?_)
theorem L_openDivision.calls (k:Nat) (P0_:Nat→Prop) (A0:Option Addr) (c0:Nat) (l0:List Int) (a1:Int) (r1:List Int) (r2:Int) (w:World) (hs0:Kd.V (Kd.int .i64) 3 w w.heap.size (fun k_=>P0_ k_) (.slice A0 l0.length c0) l0) (H:L_openDivision.f k l0 a1=some (r1,r2)):
  Calls Try.prog 16 #[.slice A0 l0.length c0,.int .i64 a1] w fun e w'=>∃ v0_:Value,e= .returned (.tuple #[v0_,.int .i64 r2])∧Kd.V (Kd.int .i64) 3 w' w.heap.size (fun k_=>(P0_ k_∨w.heap.size≤k_)) v0_ r1∧Below w.heap.size w w':=by
 have HO0:=m0 (show Kd.V (Kd.int .i64) 3 w w.heap.size (fun k_=>(P0_ k_∨w.heap.size≤k_)) (.slice A0 l0.length c0) l0 from Kd.V_mono hs0 (fun k_ hk=> .inl hk));have HB:=m0 (Below.refl w.heap.size w);unfold L_openDivision.f at H;replace H:=oa H;obtain⟨⟨t221,t224⟩,A3,H⟩:=H;(try dsimp only at H);replace H:=oa H;obtain⟨t225,A4,H⟩:=H;(try dsimp only at H);replace H:=oa H;obtain⟨t226,A5,H⟩:=H;(try dsimp only at H);obtain⟨y227,hy227⟩:∃ y_:List Int,y_=(([t224,t226]:List Int)):=⟨_,rfl⟩;replace H:((L_first.f k y227).bind fun t230=>(some (t221,t230)))=some (r1,r2):=by first|(rw[hy227];with_reducible exact H)|(have H2_:=(Option.bind_some _ _).symm.trans H;rw[hy227];with_reducible exact H2_)|(have H2_:=(Option.bind_some _ _).symm.trans H;with_reducible exact H2_)|with_reducible exact H|(rw[hy227];exact H)|exact H
 have Ny227:=m0 hy227;clear hy227;replace H:=oa H;obtain⟨t230,A6,H⟩:=H;(try dsimp only at H);simp only[Option.some.injEq,Prod.mk.injEq]at H;obtain⟨rfl,rfl⟩:=H;go_enter Try.func16,Try.ntmps16
 go_wp2_with (first|((with_reducible refine gc 18 rfl ?_);refine gl (some 10) Try.func18 #[.slice A0 l0.length c0] ?_;(with_reducible refine(L_open.calls k (fun k_=>(P0_ k_∨w.heap.size≤k_)) _ _ l0 t221 t224 _ ?side1 A3.out).mono ?_);(case side1=>exact HO0.out);rintro e w7 ⟨v222,rfl,ho0,hb⟩;refine⟨_,rfl,?_⟩;replace HO0:=vb HO0 hb;have HO223:=hv w (fun k_=>(P0_ k_∨w.heap.size≤k_)) ho0 (fun k_ hk_=>Or.elim hk_ (fun hs_=>hs_) (fs ·));replace HB:=sb HB hb;(try clear hb);(try clear ho0))|((with_reducible refine gc 19 rfl ?_);refine gl (some 16) Try.func19 #[.int .i64 a1,.int .i64 0,.int .i64 1000000] ?_;(with_reducible refine(L_within.calls a1 0 1000000 t225 _ A4.out).mono ?_);rintro e w' ⟨rfl,⟨nd,rfl⟩⟩;refine⟨_,rfl,?_⟩)|((with_reducible refine gc 22 rfl ?_);refine gl (some 17) Try.func22 #[.bool t225,.int .i64 2] ?_;(with_reducible refine(L_unless.calls t225 2 t226 _ A5.out).mono ?_);rintro e w' ⟨rfl,⟨nd,rfl⟩⟩;refine⟨_,rfl,?_⟩)|((with_reducible refine ga 18 rfl ?_);refine Kd.R_lit (Kd.int .i64) _ 30 ?hg (N:=18) ?hd (xs:=([t224,t226]:List Int)) (inner:=[.int .i64 t224,.int .i64 t226]) (ok:=fun _=>True) (okp:=fun _=>True) ?hr ?hp (fun _ hk=>hk) trivial (Below.refl _ _) (Nat.le_refl _) (by simp) ?_;(case hd=>rfl);(case hg=>rfl);(case hr=>first|(go_simp;done)|(go_simp;rfl));(case hp=>exact(Reps.one (ki t224) (Reps.one (ki t226) (Reps.none _ _))));intro v228 w8 ho9 hb hg_ hnew_;clear hg_ hnew_;(first|rw[← Ny227.out]at ho9|(simp only[Int.reduceToNat]at ho9;rw[← Ny227.out]at ho9));replace HO0:=m0 (Kd.V_elder' (by(with_reducible repeat(first|apply Kd.V_alloc|apply Kd.V_drewN|apply Kd.V_drew));exact HO0.out) (Kd.R_base ho9) hb);replace HO223:=m0 (Kd.V_elder' (by(with_reducible repeat(first|apply Kd.V_alloc|apply Kd.V_drewN|apply Kd.V_drew));exact HO223.out) (Kd.R_base ho9) hb);have HO229:=m0 (Kd.R_lower (Kd.R_newM (M:=fun k_=>(w.heap.size≤k_)) ho9 (below_size bz) (fun k_ h_=>h_)) (below_size bz));replace HB:=sb HB hb;clear hb ho9;obtain⟨Ao10,co10,eo10⟩:=Kd.R_slice HO229.out;subst eo10)|((with_reducible refine gc 21 rfl ?_);refine gl (some 19) Try.func21 #[.slice Ao10 y227.length co10] ?_;(with_reducible refine(L_first.calls k _ _ y227 t230 _ ?side1 ?side2 A6.out).mono ?_);(case side1=>exact bc (Kd.R_reads' HO229.out).2.2);(case side2=>exact(Kd.R_reads' HO229.out).2.1);rintro e w' ⟨rfl,⟨nd,rfl⟩⟩;refine⟨_,rfl,?_⟩))
 go_ret2
 exact⟨_,by first|rfl|(simp[errW_none,errW_some]<;>rfl)|(simp[*,errW_none,errW_some]<;>rfl),by(with_reducible repeat(first|apply Kd.V_alloc|apply Kd.V_drewN|apply Kd.V_drew));exact Kd.V_mono HO223.out (fun _ hk=>hk.1),by repeat(first|(with_reducible first|exact HB.out|apply below_alloc|apply pw_below_drewN|apply below_drew1)|exact HB.out)⟩
end
section
theorem slices_Values_int_int.calls_own (A:Option Addr) (n c:Nat) (w:World):
  Calls Try.prog 36 #[.slice A n c] w fun e w'=>∃ gb,gb=w.heap.size∧e= .returned (.func (.func 51) #[] #[.pointer (some ⟨gb,0,none⟩)])∧w'.heap[gb]?=some (.cells #[.slice A n c] 25 (0,0))∧Below w.heap.size w w':=by
 go_enter Try.func36,Try.ntmps36
 go_wp2
 go_ret
 exact⟨_,rfl,rfl,blk_new _ _,below_alloc (Below.refl _ _) _⟩
attribute [local go_sem] Oper.semAt_some
theorem slices_Values_int_int.take_snoc (l:List Int) (x:Int) (h0:0≤x) (h1:x<(l.length:Int)):l.take (x+1).toNat=l.take x.toNat++ [rd l x]:=by
 have e:(x+1).toNat=x.toNat+1:=by omega
 have h:x.toNat<l.length:=by omega
 rw[e,List.take_succ_eq_append_getElem h]
 congr 1
 simp[rd,List.getD_eq_getElem?_getD,List.getElem?_eq_getElem h]
theorem slices_Values_int_int.stops (n:Nat) (hn:1≤n) (A:Option Addr) (c:Nat) (l:List Int) (B:Nat) (w:World) (hbx:w.heap[B]?=some (.cells #[.slice A l.length c] 25 (0,0))) (hr:Kd.C (Kd.int .i64) w A l.length l):
  SeqStopsK Fence.wide n Try.prog 51 #[.pointer (some ⟨B,0,none⟩)] (fun x_:Int=>(#[(.int .i64 (x_))]:Array Value)) (Below w.heap.size) (fun ys=>ys=l) (fun _=>True) l.length w:=by
 intro l_ J Jx W hW hJ hJx hY h0;have hcx:W.cell? ⟨B,0,none⟩=some (.slice A l.length c):=(blk_cell (blk_below hbx hW) 0).trans rfl;have HL:=m0 (show(l.length:Int)≤9223372036854775807 by have:=hr.2.1;omega);have HY:=m0 hY;have HR:=m0 hr;have H0:=m0 h0;have HW:=m0 hW;have HJA:=m0 hJ;clear hr hbx hY h0 hJ hJx hW;refine callsIn_of_wp Try.func51 rfl trivial ?_ rfl;simp only[Try.ntmps51,List.size_toArray,List.length_cons,List.length_nil,Nat.reduceAdd,Nat.reduceSub,Array.replicate_succ,Array.replicate_zero,List.push_toArray,List.append_toArray,List.nil_append,List.cons_append]
 gi_wp2
 gi_loopw [7] (fun i wr=>∃ x:Int,i= .int .i64 x∧Aside0 (0≤x∧x≤l.length)∧Aside0 (J (l.take x.toNat) wr)∧Aside0 (Below w.heap.size W wr)) (fun i _=>l.length-(intOf i).toNat)
 case atStart=>exact⟨0,rfl,⟨by omega,by omega⟩,⟨H0.out⟩,⟨Below.refl _ _⟩⟩
 case round=>
  obtain⟨x,rfl,HX,HJ,HB⟩:=hrel;clear hcx
  by_cases hlt:x<(l.length:Int)
  ·obtain ⟨ad,e,hx0⟩:=Kd.at_int HR.out x HX.out.1 hlt
   cases e
   replace hx0:=itb_ HW.out HB.out hx0;have HLT:=m0 hlt;have c1:decide (x<(l.length:Int))=true:=decide_eq_true hlt;have p1:=eq_true HX.out.1;have q1:=eq_true hlt;clear hlt;obtain⟨fn,tmps,assign,body,hy,hR⟩:=HY.out (l.take x.toNat) (rd l x) wr HJ.out (by rw[List.length_take];have:=HLT.out;have:=HX.out;omega);have HRR:=m0 hR;clear hR
   gi_wp2
   refine HRR.out.mono ?_;rintro e W3 (⟨rfl,hJ3,hk3⟩|⟨rfl,hJx3⟩)
   ·have HJ3:=m0 hJ3;have HK3:=m0 (show Below w.heap.size W W3 from HB.out.trans hk3);clear hJ3 hk3 hy
    gi_wp2
    go_roundw
    case rel=>
     have h0:=HX.out.1;have h1:=HLT.out;have hL:=HL.out;have e1:wrap64 (x+1)=x+1:=by unfold wrap64;omega
     refine⟨wrap64 (x+1),rfl,?_,?_,HK3⟩
     ·rw [e1];exact⟨⟨by omega,by omega⟩⟩
     ·rw [e1,slices_Values_int_int.take_snoc l x h0 h1];exact HJ3
    case measure=>
     have h0:=HX.out.1;have h1:=HLT.out;have hL:=HL.out;have e1:wrap64 (x+1)=x+1:=by unfold wrap64;omega
     simp only[intOf];rw[e1];omega
   ·have HJX:=m0 hJx3;clear hJx3 hy
    gi_wp2
    refine bodyPost_ret (results_none rfl _ _ _) rfl ?_;exact⟨⟨_,rfl⟩,.inr ⟨_,trivial,HJX.out⟩⟩
  ·have HN:=m0 hlt;have c1:decide (x<(l.length:Int))=false:=decide_eq_false hlt;clear hlt
   gi_wp2
   go_end0
   have hj:=HJ.out;rw[List.take_of_length_le (by have:=HN.out;omega)]at hj
   first
    |exact⟨⟨_,rfl⟩,.inl ⟨_,rfl,hj⟩⟩
    |exact⟨⟨_,rfl⟩,.inl hj⟩
end
section
theorem slices_Collect_int.calls_own (gf:Nat) (lb:Array Value) (eg:∀ args w,(callFunc gf args).run Try.prog w= .ok (.enter gf args) w) (l:List Int) (n₀:Nat) (w:World) (hn:n₀≤w.heap.size) (hN:l.length*8≤140737488355328)
  (hseq:SeqStopsK Fence.wide 8 Try.prog gf lb (fun x_:Int=>(#[(.int .i64 (x_))]:Array Value)) (Below n₀) (fun ys=>ys=l) (fun _=>True) l.length w):
  Calls Try.prog 49 #[.func (.func gf) #[] lb] w fun e w'=>∃ v,e= .returned v∧Kd.R (Kd.int .i64) 3 w' w.heap.size (fun _=>True) v l∧Below w.heap.size w w':=by
 have HC:=m0 (slices_AppendSeq_int_int.calls_own gf lb eg l n₀ w hn hN hseq);clear hseq hn hN eg;go_enter Try.func49,Try.ntmps49
 go_wp2_with (first|(go_at_call 62;refine HC.out.mono ?_;rintro e w1 ⟨v,rfl,ho,hb⟩;have HO:=m0 ho;have HB:=m0 hb;clear ho hb))
 go_ret
 exact⟨v,rfl,HO.out,HB.out⟩
end
end Go.Proofs.Ytggiijffaifajaa.A
