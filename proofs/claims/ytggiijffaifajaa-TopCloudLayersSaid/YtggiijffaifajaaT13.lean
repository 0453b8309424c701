/- Walks of the program's functions (printed, made shorter), each with what it computes. -/
import Derived.Test.YtggiijffaifajaaT12
namespace Go.Proofs.Ytggiijffaifajaa.A
set_option maxHeartbeats 8000000
set_option maxRecDepth 100000
open Go.RowKit Go.Proofs.YtggiijffaifajaaW.PrintWords Go.Proofs.YtggiijffaifajaaW.PrintLast Go.Proofs.YtggiijffaifajaaW.PrintMore
attribute [local go_sem] max2_int min2_int max_two min_two max_three min_three max_four min_four
set_option linter.unusedVariables false
set_option linter.unusedSimpArgs false
section
def L_SegmentsOf.f (k:Nat) (l0:List Int) (a1:Int):Option (List Int×Int×Int):=(L_openDivision.f k l0 a1).bind fun bt271=>(if bt271.2=0 then((L_profile_divisions.f k bt271.1 a1).bind fun t275=>(if 0≤(bt271.1.length:Int)then(if(bt271.1.length:Int)<(t275.length:Int)then(some ((rd_T58 t275 (bt271.1.length:Int)).f1,(rd_T58 t275 (bt271.1.length:Int)).f0,0))else(none))else(none)))else(some (([]:List Int),0,bt271.2)))
theorem L_SegmentsOf.mono:∀ a0 a1 k,LeO (L_SegmentsOf.f k a0 a1) (L_SegmentsOf.f (k+1) a0 a1):=by
 intro a0 a1 k;unfold L_SegmentsOf.f
 repeat' with_reducible first
  |exact L_openDivision.mono ..
  |exact L_profile_divisions.mono ..
  |exact LeO.refl ..
  |exact LeO.none ..
  |refine LeO.ite ?_ ?_
  |refine LeO.bind ?_ (fun _=>?_)
theorem L_SegmentsOf.calls (k:Nat) (P0_:Nat→Prop) (A0:Option Addr) (c0:Nat) (l0:List Int) (a1:Int) (r1:List Int) (r2:Int) (r3:Int) (w:World) (hs0:Kd.V (Kd.int .i64) 3 w w.heap.size (fun k_=>P0_ k_) (.slice A0 l0.length c0) l0) (H:L_SegmentsOf.f k l0 a1=some (r1,r2,r3)):
  Calls Try.prog 6 #[.slice A0 l0.length c0,.int .i64 a1] w fun e w'=>∃ v0_:Value,e= .returned (.tuple #[v0_,.int .i64 r2,.int .i64 r3])∧Kd.V (Kd.int .i64) 3 w' w.heap.size (fun k_=>(P0_ k_∨w.heap.size≤k_)) v0_ r1∧Below w.heap.size w w':=by
 have hu58:=Try.underlying58;have HO0:=m0 (show Kd.V (Kd.int .i64) 3 w w.heap.size (fun k_=>(P0_ k_∨w.heap.size≤k_)) (.slice A0 l0.length c0) l0 from Kd.V_mono hs0 (fun k_ hk=> .inl hk));have HB:=m0 (Below.refl w.heap.size w);unfold L_SegmentsOf.f at H;replace H:=oa H;obtain⟨⟨t271,t274⟩,A3,H⟩:=H;(try dsimp only at H)
 by_cases c4:t274=0
 ·rw [if_pos c4]at H;have c4b0:=beq_iff_eq.mpr c4;have c4b1:=bne_eq_false_iff_eq.mpr c4;clear c4;replace H:=oa H;obtain⟨t275,A5,H⟩:=H;(try dsimp only at H)
  by_cases c6:0≤(t271.length:Int)
  ·rw [if_pos c6]at H;have c6b0:=decide_eq_true c6;have c6b1:decide (0≤t271.length)=true:=decide_eq_true (by omega);clear c6
   by_cases c7:(t271.length:Int)<(t275.length:Int)
   ·rw [if_pos c7]at H;have c7b0:=decide_eq_true c7;have c7b1:decide (t271.length<t275.length)=true:=decide_eq_true (Int.ofNat_lt.mp c7);clear c7;simp only[Option.some.injEq,Prod.mk.injEq]at H;obtain⟨rfl,rfl,rfl⟩:=H;go_enter Try.func6,Try.ntmps6
    go_wp2_with (first|(go_at_call 16;(with_reducible refine(L_openDivision.calls k (fun k_=>(P0_ k_∨w.heap.size≤k_)) _ _ l0 a1 t271 t274 _ ?side1 A3.out).mono ?_);(case side1=>exact HO0.out);rintro e w8 ⟨v272,rfl,ho0,hb⟩;replace HO0:=vb HO0 hb;have HO273:=hv w (fun k_=>(P0_ k_∨w.heap.size≤k_)) ho0 (fun k_ hk_=>Or.elim hk_ (fun hs_=>hs_) (fs ·));replace HB:=sb HB hb;(try clear hb);(try clear ho0);obtain⟨Ao9,co9,eo9⟩:=Kd.V_slice HO273.out;subst eo9)|(go_at_call 17;(with_reducible refine(L_profile_divisions.calls k _ _ t271 a1 t275 _ ?side1 ?side2 A5.out).mono ?_);(case side1=>exact bc (Kd.V_reads' HO273.out).2.2);(case side2=>exact(Kd.V_reads' HO273.out).2.1);rintro e w10 ⟨v276,rfl,ho0,hb⟩;replace HO0:=m0 (Kd.V_elder' (by(with_reducible repeat(first|apply Kd.V_alloc|apply Kd.V_drewN|apply Kd.V_drew));exact HO0.out) (Kd.N_base ho0) hb);replace HO273:=m0 (Kd.V_elder' (by(with_reducible repeat(first|apply Kd.V_alloc|apply Kd.V_drewN|apply Kd.V_drew));exact HO273.out) (Kd.N_base ho0) hb);have HO277:=m0 (Kd.N_lower (Kd.N_mono (ok':=fun k_=>(P0_ k_∨w.heap.size≤k_)) ho0 (fun k_ hk_=>(.inr (Nat.le_trans (below_size bz) hk_)))) (below_size bz));replace HB:=sb HB hb;(try clear hb);(try clear ho0);obtain⟨Ao11,co11,eo11⟩:=Kd.N_slice HO277.out;subst eo11;have p278:0≤((t271.length:Int):Int):=od;have q278:(t271.length:Int)<(t275.length:Int):=od;obtain⟨ad278,A278_1,c278_1,e278,hx278_0,hx278_1,hl278_1,hi278_1⟩:=at_T58 (Kd.N_reads' HO277.out).2.2 (t271.length:Int) p278 q278;cases e278;obtain⟨ce278,hce278,hMe278,hcc278⟩:=Kd.N_get HO277.out z58 (t271.length:Int) p278 (by first|exact q278|exact od|(have e_:=(Kd.N_reads' HO277.out).1;omega));obtain⟨ua278_1,uc278_1,rfl,ul278_1,ge278_1⟩:=k58_openF hMe278;have hv278_1:=hcc278 1 _ rfl;rw[add_field _ _ 1 (by omega)]at hv278_1;replace hv278_1:=Option.some.inj (hv278_1.symm.trans hx278_1);injection hv278_1 with hva_ hvn_ hvc_;rw[hva_]at ge278_1;rw[hvc_]at ul278_1;have HL278_1:=m0 (show Kd.V (Kd.int .i64) 3 _ w.heap.size _ _ ((rd_T58 t275 (t271.length:Int)).f1)from Kd.V_mk ul278_1 ge278_1);clear hva_ hvn_ hvc_ ge278_1 ul278_1;clear hcc278 hce278;have HR278_1:=m0 hi278_1;have HC278_1:=m0 hl278_1;clear hi278_1 hl278_1;(try simp only[Go.IntWalk.toNatUp]at hx278_0);(try simp only[Go.IntWalk.toNatUp]at hx278_1);replace p278:=eq_true p278;replace q278:=eq_true q278)|((with_reducible refine ga 9 rfl ?_);refine be 9 58 #[.int .i64 0,.slice none 0 0] ?_;intro gb279 hg w12 hbox hb;replace HO0:=ve HO0 hg hb;replace HO273:=ve HO273 hg hb;replace HO277:=m0 (Kd.N_below (Kd.N_elderB (by(with_reducible repeat(first|apply Kd.N_alloc|apply Kd.N_drewN|apply Kd.N_drew));exact HO277.out) gb279 (Nat.le_of_eq hg.symm)) hb);replace HL278_1:=ve HL278_1 hg hb;replace HR278_1:=m0 (Kd.C_below (by repeat(first|(with_reducible exact HR278_1.out)|(with_reducible refine Kd.C_alloc ?_ _)|(with_reducible refine Kd.C_drewN ?_ _)|(with_reducible refine Kd.C_drew ?_)|exact HR278_1.out)) hb);have BK279:=m0 hbox;have GE279:=gw w hg;replace HB:=sb HB hb;clear hb hbox hg;obtain⟨hcz13_0,hcz13_1,hfz13_0,hfz13_1⟩:=b2 BK279))
    repeat(go_quiet (first|(go_at_call 16;(with_reducible refine(L_openDivision.calls k (fun k_=>(P0_ k_∨w.heap.size≤k_)) _ _ l0 a1 t271 t274 _ ?side1 A3.out).mono ?_);(case side1=>exact HO0.out);rintro e w8 ⟨v272,rfl,ho0,hb⟩;replace HO0:=vb HO0 hb;have HO273:=hv w (fun k_=>(P0_ k_∨w.heap.size≤k_)) ho0 (fun k_ hk_=>Or.elim hk_ (fun hs_=>hs_) (fs ·));replace HB:=sb HB hb;(try clear hb);(try clear ho0);obtain⟨Ao9,co9,eo9⟩:=Kd.V_slice HO273.out;subst eo9)|(go_at_call 17;(with_reducible refine(L_profile_divisions.calls k _ _ t271 a1 t275 _ ?side1 ?side2 A5.out).mono ?_);(case side1=>exact bc (Kd.V_reads' HO273.out).2.2);(case side2=>exact(Kd.V_reads' HO273.out).2.1);rintro e w10 ⟨v276,rfl,ho0,hb⟩;replace HO0:=m0 (Kd.V_elder' (by(with_reducible repeat(first|apply Kd.V_alloc|apply Kd.V_drewN|apply Kd.V_drew));exact HO0.out) (Kd.N_base ho0) hb);replace HO273:=m0 (Kd.V_elder' (by(with_reducible repeat(first|apply Kd.V_alloc|apply Kd.V_drewN|apply Kd.V_drew));exact HO273.out) (Kd.N_base ho0) hb);have HO277:=m0 (Kd.N_lower (Kd.N_mono (ok':=fun k_=>(P0_ k_∨w.heap.size≤k_)) ho0 (fun k_ hk_=>(.inr (Nat.le_trans (below_size bz) hk_)))) (below_size bz));replace HB:=sb HB hb;(try clear hb);(try clear ho0);obtain⟨Ao11,co11,eo11⟩:=Kd.N_slice HO277.out;subst eo11;have p278:0≤((t271.length:Int):Int):=od;have q278:(t271.length:Int)<(t275.length:Int):=od;obtain⟨ad278,A278_1,c278_1,e278,hx278_0,hx278_1,hl278_1,hi278_1⟩:=at_T58 (Kd.N_reads' HO277.out).2.2 (t271.length:Int) p278 q278;cases e278;obtain⟨ce278,hce278,hMe278,hcc278⟩:=Kd.N_get HO277.out z58 (t271.length:Int) p278 (by first|exact q278|exact od|(have e_:=(Kd.N_reads' HO277.out).1;omega));obtain⟨ua278_1,uc278_1,rfl,ul278_1,ge278_1⟩:=k58_openF hMe278;have hv278_1:=hcc278 1 _ rfl;rw[add_field _ _ 1 (by omega)]at hv278_1;replace hv278_1:=Option.some.inj (hv278_1.symm.trans hx278_1);injection hv278_1 with hva_ hvn_ hvc_;rw[hva_]at ge278_1;rw[hvc_]at ul278_1;have HL278_1:=m0 (show Kd.V (Kd.int .i64) 3 _ w.heap.size _ _ ((rd_T58 t275 (t271.length:Int)).f1)from Kd.V_mk ul278_1 ge278_1);clear hva_ hvn_ hvc_ ge278_1 ul278_1;clear hcc278 hce278;have HR278_1:=m0 hi278_1;have HC278_1:=m0 hl278_1;clear hi278_1 hl278_1;(try simp only[Go.IntWalk.toNatUp]at hx278_0);(try simp only[Go.IntWalk.toNatUp]at hx278_1);replace p278:=eq_true p278;replace q278:=eq_true q278)|((with_reducible refine ga 9 rfl ?_);refine be 9 58 #[.int .i64 0,.slice none 0 0] ?_;intro gb279 hg w12 hbox hb;replace HO0:=ve HO0 hg hb;replace HO273:=ve HO273 hg hb;replace HO277:=m0 (Kd.N_below (Kd.N_elderB (by(with_reducible repeat(first|apply Kd.N_alloc|apply Kd.N_drewN|apply Kd.N_drew));exact HO277.out) gb279 (Nat.le_of_eq hg.symm)) hb);replace HL278_1:=ve HL278_1 hg hb;replace HR278_1:=m0 (Kd.C_below (by repeat(first|(with_reducible exact HR278_1.out)|(with_reducible refine Kd.C_alloc ?_ _)|(with_reducible refine Kd.C_drewN ?_ _)|(with_reducible refine Kd.C_drew ?_)|exact HR278_1.out)) hb);have BK279:=m0 hbox;have GE279:=gw w hg;replace HB:=sb HB hb;clear hb hbox hg;obtain⟨hcz13_0,hcz13_1,hfz13_0,hfz13_1⟩:=b2 BK279));try go_wp2_with (first|(go_at_call 16;(with_reducible refine(L_openDivision.calls k (fun k_=>(P0_ k_∨w.heap.size≤k_)) _ _ l0 a1 t271 t274 _ ?side1 A3.out).mono ?_);(case side1=>exact HO0.out);rintro e w8 ⟨v272,rfl,ho0,hb⟩;replace HO0:=vb HO0 hb;have HO273:=hv w (fun k_=>(P0_ k_∨w.heap.size≤k_)) ho0 (fun k_ hk_=>Or.elim hk_ (fun hs_=>hs_) (fs ·));replace HB:=sb HB hb;(try clear hb);(try clear ho0);obtain⟨Ao9,co9,eo9⟩:=Kd.V_slice HO273.out;subst eo9)|(go_at_call 17;(with_reducible refine(L_profile_divisions.calls k _ _ t271 a1 t275 _ ?side1 ?side2 A5.out).mono ?_);(case side1=>exact bc (Kd.V_reads' HO273.out).2.2);(case side2=>exact(Kd.V_reads' HO273.out).2.1);rintro e w10 ⟨v276,rfl,ho0,hb⟩;replace HO0:=m0 (Kd.V_elder' (by(with_reducible repeat(first|apply Kd.V_alloc|apply Kd.V_drewN|apply Kd.V_drew));exact HO0.out) (Kd.N_base ho0) hb);replace HO273:=m0 (Kd.V_elder' (by(with_reducible repeat(first|apply Kd.V_alloc|apply Kd.V_drewN|apply Kd.V_drew));exact HO273.out) (Kd.N_base ho0) hb);have HO277:=m0 (Kd.N_lower (Kd.N_mono (ok':=fun k_=>(P0_ k_∨w.heap.size≤k_)) ho0 (fun k_ hk_=>(.inr (Nat.le_trans (below_size bz) hk_)))) (below_size bz));replace HB:=sb HB hb;(try clear hb);(try clear ho0);obtain⟨Ao11,co11,eo11⟩:=Kd.N_slice HO277.out;subst eo11;have p278:0≤((t271.length:Int):Int):=od;have q278:(t271.length:Int)<(t275.length:Int):=od;obtain⟨ad278,A278_1,c278_1,e278,hx278_0,hx278_1,hl278_1,hi278_1⟩:=at_T58 (Kd.N_reads' HO277.out).2.2 (t271.length:Int) p278 q278;cases e278;obtain⟨ce278,hce278,hMe278,hcc278⟩:=Kd.N_get HO277.out z58 (t271.length:Int) p278 (by first|exact q278|exact od|(have e_:=(Kd.N_reads' HO277.out).1;omega));obtain⟨ua278_1,uc278_1,rfl,ul278_1,ge278_1⟩:=k58_openF hMe278;have hv278_1:=hcc278 1 _ rfl;rw[add_field _ _ 1 (by omega)]at hv278_1;replace hv278_1:=Option.some.inj (hv278_1.symm.trans hx278_1);injection hv278_1 with hva_ hvn_ hvc_;rw[hva_]at ge278_1;rw[hvc_]at ul278_1;have HL278_1:=m0 (show Kd.V (Kd.int .i64) 3 _ w.heap.size _ _ ((rd_T58 t275 (t271.length:Int)).f1)from Kd.V_mk ul278_1 ge278_1);clear hva_ hvn_ hvc_ ge278_1 ul278_1;clear hcc278 hce278;have HR278_1:=m0 hi278_1;have HC278_1:=m0 hl278_1;clear hi278_1 hl278_1;(try simp only[Go.IntWalk.toNatUp]at hx278_0);(try simp only[Go.IntWalk.toNatUp]at hx278_1);replace p278:=eq_true p278;replace q278:=eq_true q278)|((with_reducible refine ga 9 rfl ?_);refine be 9 58 #[.int .i64 0,.slice none 0 0] ?_;intro gb279 hg w12 hbox hb;replace HO0:=ve HO0 hg hb;replace HO273:=ve HO273 hg hb;replace HO277:=m0 (Kd.N_below (Kd.N_elderB (by(with_reducible repeat(first|apply Kd.N_alloc|apply Kd.N_drewN|apply Kd.N_drew));exact HO277.out) gb279 (Nat.le_of_eq hg.symm)) hb);replace HL278_1:=ve HL278_1 hg hb;replace HR278_1:=m0 (Kd.C_below (by repeat(first|(with_reducible exact HR278_1.out)|(with_reducible refine Kd.C_alloc ?_ _)|(with_reducible refine Kd.C_drewN ?_ _)|(with_reducible refine Kd.C_drew ?_)|exact HR278_1.out)) hb);have BK279:=m0 hbox;have GE279:=gw w hg;replace HB:=sb HB hb;clear hb hbox hg;obtain⟨hcz13_0,hcz13_1,hfz13_0,hfz13_1⟩:=b2 BK279)))
    go_ret3
    exact⟨_,by first|rfl|(simp[errW_none,errW_some]<;>rfl)|(simp[*,errW_none,errW_some]<;>rfl),by(with_reducible repeat(first|apply Kd.V_alloc|apply Kd.V_drewN|apply Kd.V_drew));exact Kd.V_mono (vf (vf (vn gb279 HL278_1.out (·.2)) (·.2)) (·.2)) (fun _ hk=>hk.1.1.1),by repeat(first|(with_reducible first|exact HB.out|apply below_alloc|apply pw_below_drewN|apply below_drew1|refine below_set ?_ GE279.out)|exact HB.out)⟩
   ·rw [if_neg c7]at H;exact absurd H (by simp)
  ·rw [if_neg c6]at H;exact absurd H (by simp)
 ·rw [if_neg c4]at H;have c4b0:=beq_eq_false_iff_ne.mpr c4;have c4b1:=bne_iff_ne.mpr c4;simp only[Option.some.injEq,Prod.mk.injEq]at H;obtain⟨rfl,rfl,rfl⟩:=H;go_enter Try.func6,Try.ntmps6
  go_wp2_with (first|(go_at_call 16;(with_reducible refine(L_openDivision.calls k (fun k_=>(P0_ k_∨w.heap.size≤k_)) _ _ l0 a1 t271 t274 _ ?side1 A3.out).mono ?_);(case side1=>exact HO0.out);rintro e w14 ⟨v272,rfl,ho0,hb⟩;replace HO0:=vb HO0 hb;have HO273:=hv w (fun k_=>(P0_ k_∨w.heap.size≤k_)) ho0 (fun k_ hk_=>Or.elim hk_ (fun hs_=>hs_) (fs ·));replace HB:=sb HB hb;(try clear hb);(try clear ho0)))
  repeat(go_quiet (first|(go_at_call 16;(with_reducible refine(L_openDivision.calls k (fun k_=>(P0_ k_∨w.heap.size≤k_)) _ _ l0 a1 t271 t274 _ ?side1 A3.out).mono ?_);(case side1=>exact HO0.out);rintro e w14 ⟨v272,rfl,ho0,hb⟩;replace HO0:=vb HO0 hb;have HO273:=hv w (fun k_=>(P0_ k_∨w.heap.size≤k_)) ho0 (fun k_ hk_=>Or.elim hk_ (fun hs_=>hs_) (fs ·));replace HB:=sb HB hb;(try clear hb);(try clear ho0)));try go_wp2_with (first|(go_at_call 16;(with_reducible refine(L_openDivision.calls k (fun k_=>(P0_ k_∨w.heap.size≤k_)) _ _ l0 a1 t271 t274 _ ?side1 A3.out).mono ?_);(case side1=>exact HO0.out);rintro e w14 ⟨v272,rfl,ho0,hb⟩;replace HO0:=vb HO0 hb;have HO273:=hv w (fun k_=>(P0_ k_∨w.heap.size≤k_)) ho0 (fun k_ hk_=>Or.elim hk_ (fun hs_=>hs_) (fs ·));replace HB:=sb HB hb;(try clear hb);(try clear ho0))))
  go_ret3
  exact⟨_,by first|rfl|(simp[errW_none,errW_some]<;>rfl)|(simp[*,errW_none,errW_some]<;>rfl),Kd.V_nil _ _ _ _ _,by repeat(first|(with_reducible first|exact HB.out|apply below_alloc|apply pw_below_drewN|apply below_drew1)|exact HB.out)⟩
end
section
def Bs_CopyInts.f (l0:List Int):Option (List Int):=(some (([]:List Int):List Int)).bind fun y280=>(if y280.length+l0.length<17592186044416 then(some (y280++l0))else(none))
theorem Bs_CopyInts.calls (A0:Option Addr) (c0:Nat) (l0:List Int) (r:List Int) (w:World) (hr0:Kd.C (Kd.int .i64) w A0 l0.length l0) (hc0:l0.length≤c0) (H:Bs_CopyInts.f l0=some r):
  Calls Try.prog 7 #[.slice A0 l0.length c0] w fun e w'=>∃ v0_:Value,e= .returned (v0_)∧Kd.R (Kd.int .i64) 3 w' w.heap.size (fun _=>True) v0_ r∧Below w.heap.size w w':=by
 have HR0:=m0 hr0;have HC0:=m0 hc0;clear hr0 hc0;have HB:=m0 (Below.refl w.heap.size w);unfold Bs_CopyInts.f at H;obtain⟨y280,hy280⟩:∃ y_:List Int,y_=(([]:List Int)):=⟨_,rfl⟩;replace H:(if y280.length+l0.length<17592186044416 then(some (y280++l0))else(none))=some r:=by first|(rw[hy280];with_reducible exact H)|(have H2_:=(Option.bind_some _ _).symm.trans H;rw[hy280];with_reducible exact H2_)|(have H2_:=(Option.bind_some _ _).symm.trans H;with_reducible exact H2_)|with_reducible exact H|(rw[hy280];exact H)|exact H
 have Ny280:=m0 hy280;clear hy280
 by_cases c2:y280.length+l0.length<17592186044416
 ·rw [if_pos c2]at H;have LMc2:=m0 c2;clear c2;obtain⟨y283,hy283⟩:∃ y_:List Int,y_=(y280++l0):=⟨_,rfl⟩;replace H:(some y283)=some r:=by first|(rw[hy283];with_reducible exact H)|(have H2_:=(Option.bind_some _ _).symm.trans H;rw[hy283];with_reducible exact H2_)|(have H2_:=(Option.bind_some _ _).symm.trans H;with_reducible exact H2_)|with_reducible exact H|(rw[hy283];exact H)|exact H
  have Ny283:=m0 hy283;clear hy283;obtain rfl:=Option.some.inj H;go_enter Try.func7,Try.ntmps7
  go_wp2_with (first|((with_reducible refine ga 3 rfl ?_);refine Kd.R_lit (Kd.int .i64) _ 3 ?hg (N:=3) ?hd (xs:=([]:List Int)) (inner:=[]) (ok:=fun _=>True) (okp:=fun _=>True) ?hr ?hp (fun _ hk=>hk) trivial (Below.refl _ _) (Nat.le_refl _) (by simp) ?_;(case hd=>rfl);(case hg=>rfl);(case hr=>first|(go_simp;done)|(go_simp;rfl));(case hp=>exact(Reps.none _ _));intro v281 w3 ho4 hb hg_ hnew_;clear hg_ hnew_;(first|rw[← Ny280.out]at ho4|(simp only[Int.reduceToNat]at ho4;rw[← Ny280.out]at ho4));have HO282:=m0 (Kd.R_lower ho4 (below_size bz));replace HB:=sb HB hb;clear hb ho4)|((with_reducible refine gate_builtin (b:= .append) (xs:= #[.tmp 3,.tmp 4]) rfl ?_);at_builtin;refine Kd.R_append_rows (Kd.int .i64) (w0:=w) w.heap.size rfl (.tmp 3) (.tmp 4) 25 3 (.int .i64 0) 8 rfl Try.underlying25 info3 rfl (by decide) (by omega) v281 y280 l0 _ _ _ (fun _=>True) (fun _=>False) rfl rfl ?aO ?aR (fun _ _ h=>h) (fun _ h=>h.elim) ?aF ?aB ?aS ?aL ?_;(case aR=>exact cb HR0 HB);(case aB=>exact bz);(case aF=>exact(fun _ _=>trivial));(case aO=>exact(br HO282.out));(case aS=>exact(below_size bz));(case aL=>have:=LMc2.out;omega);intro v284 w5 ho hb hg hat;rw[← Ny283.out]at ho;have n0_:=m0 (hb);have n1_:=m0 (ho);clear HB;clear HO282;have HB:=n0_;have HO285:=n1_;clear n0_ n1_;clear ho hb hg hat))
  go_ret
  exact⟨_,by first|rfl|(simp[errW_none,errW_some]<;>rfl)|(simp[*,errW_none,errW_some]<;>rfl),by(with_reducible repeat(first|apply Kd.R_alloc|apply Kd.R_drewN|apply Kd.R_drew));exact HO285.out,by repeat(first|(with_reducible first|exact HB.out|apply below_alloc|apply pw_below_drewN|apply below_drew1)|exact HB.out)⟩
 ·rw [if_neg c2]at H;exact absurd H (by simp)
end
section
def L_isGates.f (a0:Int):Option (Bool):=(L_within.f a0 0 24).bind fun t286=>(some t286)
theorem L_isGates.calls (a0:Int) (r:Bool) (w:World) (H:L_isGates.f a0=some r):
  Calls Try.prog 20 #[.int .i64 a0] w fun e w'=>e= .returned (.bool r)∧Drawn0 w w':=by
 unfold L_isGates.f at H;replace H:=oa H;obtain⟨t286,A2,H⟩:=H;(try dsimp only at H);obtain rfl:=Option.some.inj H;go_enter Try.func20,Try.ntmps20
 go_wp2_with (first|((with_reducible refine gc 19 rfl ?_);refine gl (some 4) Try.func19 #[.int .i64 a0,.int .i64 0,.int .i64 24] ?_;(with_reducible refine(L_within.calls a0 0 24 t286 _ A2.out).mono ?_);rintro e w' ⟨rfl,⟨nd,rfl⟩⟩;refine⟨_,rfl,?_⟩))
 go_ret
 exact⟨rz,by repeat(first|exact Drawn0.refl _|apply Drawn0.step)⟩
end
section
theorem gate_via_ {P:Program} {ops:Array Oper} {Q:Exit→Act→World→Prop} {rest:List Oper} {o:Oper} {a:Act} {W:World} {t:Tmp} {av:Array Operand} {ts:Array TypeId} (_ho:o.op= .call {callee:= .value (.tmp t),args:=av,argTypes:=ts }) (h:wpList P ops Q (o::rest) a W):wpList P ops Q (o::rest) a W:=h
theorem goesLB_ {P:Program} {ops:Array Oper} {Q:Exit→Act→World→Prop} {rest:List Oper} {oi:Oper} {a:Act} {w:World} (N:Option Tmp) (hd:oi.dst=N) (hg:oi.guard=none) {av:Array Operand} {ts:Array TypeId} (t:Tmp) (f:FuncId) (bs cs:Array Value) (he:∀ args w,(callFunc f args).run P w= .ok (.enter f args) w) (args:Array Value)
  (hop:oi.op= .call {callee:= .value (.tmp t),args:=av,argTypes:=ts }) (ht:a.tmps[t]?=some (.func (.func f) bs cs)) (hargs:bs++av.map a.eval++cs=args)
  (h:Calls P f args w fun e w'=>∃ v,e= .returned v∧wpList P ops Q rest (a.put N v) w'):wpList P ops Q (oi::rest) a w:=by
 refine wpList_plain hg fun K hK=>?_;have hrun:(execOp a.eval oi).run P w= .ok (.enter f args) w:=by
  unfold execOp
  simp[hop,resolve,Deferred.ofValue,invoke,Act.eval,ht]
  simpa [Act.eval, ←hargs]using he args w
 unfold Oper.wp;rw[hrun,Oper.upon_enter];refine h.mono fun e w'' hh=>?_;obtain⟨v,rfl,hk⟩:=hh;subst hd;exact hK _ _ hk
def L_runs.l0 (p:Int→Option Bool):Nat→List (S29)→Int→Int→Option ((List (S29)))
 |0,_,_,_=>none
 |k+1,x5,x8,x9=>if x9<x8 then((p x9).bind fun t396=>(if t396=true then(if(wrap64 ((x5.length:Int)-1))≥0 then(if 0≤(wrap64 ((x5.length:Int)-1))then(if(wrap64 ((x5.length:Int)-1))<(x5.length:Int)then(if((rd_T29 x5 (wrap64 ((x5.length:Int)-1))).f1)=(wrap64 (x9-1))then(L_runs.l0 p k (x5.set ((wrap64 ((x5.length:Int)-1)):Int).toNat (⟨(rd_T29 x5 (wrap64 ((x5.length:Int)-1))).f0,x9⟩:S29)) x8 (wrap64 (x9+1)))else(if x5.length<8796093022208 then(L_runs.l0 p k (x5++ [(⟨x9,x9⟩:S29)]) x8 (wrap64 (x9+1)))else(none)))else(none))else(none))else(if x5.length<8796093022208 then(L_runs.l0 p k (x5++ [(⟨x9,x9⟩:S29)]) x8 (wrap64 (x9+1)))else(none)))else(L_runs.l0 p k x5 x8 (wrap64 (x9+1)))))else(some x5)
def L_runs.f (p:Int→Option Bool) (k:Nat) (a0:Int):Option ((List (S29))):=L_runs.l0 p k ([]:List (S29)) a0 0
theorem L_runs.mono_l {p q:Int→Option Bool} (hpq:∀ i,LeO (p i) (q i)):∀ k,(∀ y0 y1 y2,LeO (L_runs.l0 p k y0 y1 y2) (L_runs.l0 q (k+1) y0 y1 y2))
 |0=>fun _ _ _ r h=>by simp[L_runs.l0]at h
 | k+1=>by
  have ih0:=L_runs.mono_l hpq k
  ·intro y0 y1 y2;unfold L_runs.l0
   repeat' with_reducible first
    |exact ih0 ..
    |exact hpq ..
    |exact LeO.refl ..
    |exact LeO.none ..
    |refine LeO.ite ?_ ?_
    |refine LeO.bind ?_ (fun _=>?_)
theorem L_runs.mono2 {p q:Int→Option Bool} (hpq:∀ i,LeO (p i) (q i)):∀ a0 k,LeO (L_runs.f p k a0) (L_runs.f q (k+1) a0):=fun a0 k=>L_runs.mono_l hpq k _ _ _
theorem L_runs.own (p:Int→Option Bool) (gf:Nat) (bnd lb:Array Value) (eg:∀ args w,(callFunc gf args).run Try.prog w= .ok (.enter gf args) w) (k:Nat) (a0:Int) (r:List (S29)) (w:World) (hp:∀ (W:World) (x:Int) (b:Bool),Below w.heap.size w W→p x=some b→Calls Try.prog gf (bnd++ #[.int .i64 x]++lb) W fun e w'=>e= .returned (.bool b)∧Below W.heap.size W w') (H:L_runs.f p k a0=some r):
  Calls Try.prog 23 #[.int .i64 a0,.func (.func gf) bnd lb] w fun e w'=>∃ v0_:Value,e= .returned (v0_)∧Kd.R k29 29 w' w.heap.size (fun _=>True) v0_ r∧Below w.heap.size w w':=by
 have hu29:=Try.underlying29;have HP:=m0 hp;clear hp;have HB:=m0 (Below.refl w.heap.size w);unfold L_runs.f at H;have H':=m0 H;clear H;go_enter Try.func23,Try.ntmps23
 go_wp2
 go_loopg [5,9] k (fun kq v5 v9 w'=>∃ (x5_1:List (S29)) (x9_1:Int),v9= .int .i64 x9_1∧Aside0 (L_runs.l0 p kq x5_1 a0 x9_1=some r)∧Aside0 (kq≤k)∧Aside0 (Kd.R k29 29 w' w.heap.size (fun _=>True) v5 x5_1)∧Aside0 (Below w.heap.size w w'))
 case atStart=>exact⟨(([]:List (S29))),(0),rz,H',⟨Nat.le_refl _⟩,⟨by first|exact Kd.R_nil _ _ _ _ _|exact Kd.N_nil _ _ _ _ _|exact Kd.V_nil _ _ _ _ _|exact Kd.Q_nil _ _ _ _ _|exact Kd.S_nil _ _ _ _ _⟩,⟨bz⟩⟩
 case round=>
  clear H';obtain⟨x5_1,x9_1,rfl,HA,HK1,HO_5,HB⟩:=hrel
  cases gk with
  |zero=>exact absurd HA.out (by simp[L_runs.l0])
  | succ k1=>
   have H:=HA.out;clear HA;simp only[L_runs.l0]at H
   by_cases c2:x9_1<a0
   ·rw [if_pos c2]at H;have c2b0:=decide_eq_true c2;clear c2;replace H:=oa H;obtain⟨t396,A3,H⟩:=H;(try dsimp only at H)
    by_cases c4:t396=true
    ·subst c4;rw[if_pos rfl]at H
     by_cases c5:(wrap64 ((x5_1.length:Int)-1))≥0
     ·rw [if_pos c5]at H;have c5b0:=decide_eq_true c5;clear c5;obtain⟨ji6,hji6⟩:∃ j_:Int,(wrap64 ((x5_1.length:Int)-1))=j_:=⟨_,rfl⟩;replace H:(if 0≤(ji6)then(if(ji6)<(x5_1.length:Int)then(if((rd_T29 x5_1 (ji6)).f1)=(wrap64 (x9_1-1))then(L_runs.l0 p k1 (x5_1.set ((ji6):Int).toNat (⟨(rd_T29 x5_1 (ji6)).f0,x9_1⟩:S29)) a0 (wrap64 (x9_1+1)))else(if x5_1.length<8796093022208 then(L_runs.l0 p k1 (x5_1++ [(⟨x9_1,x9_1⟩:S29)]) a0 (wrap64 (x9_1+1)))else(none)))else(none))else(none))=some r:=by first|(rw[hji6]at H;exact H)|(simp only[hji6]at H ⊢;exact H)
      (try rw[hji6]at c5b0);(try rw[hji6]at A3);have hji6w:(IntKind.i64.wrap ((x5_1.length:Int)-1))=ji6:=(i64_w _).trans hji6
      by_cases c7:0≤(ji6)
      ·rw [if_pos c7]at H;have c7b0:=decide_eq_true c7;clear c7
       by_cases c8:(ji6)<(x5_1.length:Int)
       ·rw [if_pos c8]at H;have c8b0:=decide_eq_true c8;clear c8
        by_cases c9:((rd_T29 x5_1 (ji6)).f1)=(wrap64 (x9_1-1))
        ·rw [if_pos c9]at H;have c9b0:=beq_iff_eq.mpr c9;have c9b1:=bne_eq_false_iff_eq.mpr c9;clear c9;obtain⟨y398,hy398⟩:∃ y_:List (S29),y_=(x5_1.set ((ji6):Int).toNat (⟨(rd_T29 x5_1 (ji6)).f0,x9_1⟩:S29)):=⟨_,rfl⟩;replace H:(L_runs.l0 p k1 y398 a0 (wrap64 (x9_1+1)))=some r:=by first|(rw[hy398];with_reducible exact H)|(have H2_:=(Option.bind_some _ _).symm.trans H;rw[hy398];with_reducible exact H2_)|(have H2_:=(Option.bind_some _ _).symm.trans H;with_reducible exact H2_)|with_reducible exact H|(rw[hy398];exact H)|exact H
         have Ny398:=m0 hy398;clear hy398;have H':=m0 H;clear H
         go_wp2_with (first|((with_reducible refine gate_via_ (t:=12) rfl ?_);refine goesLB_ (some 14) rfl rfl 12 gf bnd lb eg (bnd++ #[.int .i64 x9_1]++lb) rfl (by rfl) (by first|rfl|(simp;done)|(simp;rfl)) ?_;(with_reducible refine(HP.out _ x9_1 true bz A3.out).mono ?_);rintro e w11 ⟨rfl,hb⟩;refine⟨_,rfl,?_⟩;replace HO_5:=rb HO_5 hb;replace HB:=sb HB hb;(try clear hb);obtain⟨Ao12,co12,eo12⟩:=Kd.R_slice HO_5.out;subst eo12;have p397:0≤((ji6):Int):=od;have q397:(ji6)<(x5_1.length:Int):=od;obtain⟨ad397,e397,hx397_0,hx397_1⟩:=at_T29 (Kd.R_reads' HO_5.out).2.2 (ji6) p397 q397;cases e397;replace p397:=eq_true p397;replace q397:=eq_true q397;have p10:0≤((ji6):Int):=od;have q10:((ji6):Int)<((x5_1.length:Int):Int):=od;obtain⟨go10,co10,eo10,gb10,gl10,cl10,HG10⟩:=Kd.R_form HO_5.out (by omega);(first|cases eo10|(injection eo10 with ea_ en_ ec_;(first|subst ea_|(injection ea_ with ea_;subst ea_));subst ec_;clear en_));have GB10:=m0 gb10;have GG10:=m0 HG10;clear gb10 gl10 HG10;(first|simp only[add_plain]at hx397_0|skip);(first|simp only[add_plain]at hx397_1|skip);obtain⟨ce10,hcl10,hM10,hcc10,hfr10⟩:=Kd.R_elem HO_5.out z29 ((ji6):Int) p10 q10;obtain rfl:=k29_openM hM10;have hx10_0:w11.cell? ⟨go10,((ji6):Int).toNat*2,none⟩=some (.int .i64 ((rd_T29 x5_1 (ji6)).f0)):=hcc10 0 _ rfl;have hx10_1:w11.cell? ⟨go10,((ji6):Int).toNat*2+1,none⟩=some (.int .i64 ((rd_T29 x5_1 (ji6)).f1)):=hcc10 1 _ rfl;have hf10_0:w11.frozen? ⟨go10,((ji6):Int).toNat*2,none⟩=false:=hfr10 0;have hf10_1:w11.frozen? ⟨go10,((ji6):Int).toNat*2+1,none⟩=false:=hfr10 1;clear hcl10 hcc10 hfr10 hM10;replace p10:=eq_true p10;replace q10:=eq_true q10;have HX13:=m0 (show Kd.R k29 29 w11 w.heap.size (fun _=>True) (.slice (some ⟨go10,0,none⟩) x5_1.length co12) x5_1 from(br HO_5.out));obtain⟨ce13,hcl13,hM13,hcc13,hfr13⟩:=Kd.R_elem HX13.out z29 ((ji6):Int) (od) (by have h_:((ji6):Int)<((x5_1.length:Int):Int):=od;first|exact h_|(have e_:=(Kd.R_reads' HO_5.out).1;omega)|simpa using h_);obtain rfl:=k29_openM hM13;have HP13:=Kd.R_seg HX13.out ((ji6):Int) (od) (by have h_:((ji6):Int)<((x5_1.length:Int):Int):=od;first|exact h_|(have e_:=(Kd.R_reads' HO_5.out).1;omega)|simpa using h_) (seg:=[.int .i64 x9_1]) (j:=1) hcl13 hcc13 (show 2≤2 from by decide) (x':=(⟨(rd_T29 x5_1 (ji6)).f0,x9_1⟩:S29)) (k29_mkM _ _ _ (⟨(rd_T29 x5_1 (ji6)).f0,x9_1⟩:S29) ) (fun _ hk=>hk);have hx13_1:=hcc13 1 _ rfl;(try simp only[show (k29).sz=2 from rfl,Nat.mul_one,Nat.add_zero]at hx13_1);have hf13_1:=hfr13 1;(try simp only[show (k29).sz=2 from rfl,Nat.mul_one,Nat.add_zero]at hf13_1);clear hcl13 hcc13 hfr13 hM13)|((with_reducible refine gate_store (t:=3) (p:=35) rfl ?_);refine store_event (t:=3) (p:=35) (v:= ?vo_w14) (w1:=(w11.setCell ⟨go10,((ji6):Int).toNat*2+1,none⟩ (.int .i64 x9_1))) ?hg ?ho ?hn ?hr ?_;(case ho=>rfl);(case hg=>rfl);(case hn=>rfl);(case hr=>first|(go_simp;done)|(go_simp;rfl));intro w14 hw;have hg:w11.grownBy w14 (some go10):=(by rw[hw];exact HP13.2);have hp_:Kd.R k29 29 w14 w.heap.size (fun _=>True) (.slice (some ⟨go10,0,none⟩) x5_1.length co12) y398:=(by rw[hw,Ny398.out];exact HP13.1);clear HP13;replace HO_5:=m0 (hp_);replace HB:=m0 ((by rw[hw];exact below_set (HB.out) GB10.out:Below w.heap.size w w14));clear hg hw hp_))
         go_roundg k1
         case measure=>have:=HK1.out;omega
         case rel=>exact⟨(y398),(wrap64 (x9_1+1)),rz,H',⟨by have:=HK1.out;omega⟩,⟨br HO_5.out⟩,⟨bz⟩⟩
        ·rw [if_neg c9]at H;have c9b0:=beq_eq_false_iff_ne.mpr c9;have c9b1:=bne_iff_ne.mpr c9
         by_cases c15:x5_1.length<8796093022208
         ·rw [if_pos c15]at H;have LMc15:=m0 c15;clear c15;obtain⟨y399,hy399⟩:∃ y_:List (S29),y_=(x5_1++ [(⟨x9_1,x9_1⟩:S29)]):=⟨_,rfl⟩;replace H:(L_runs.l0 p k1 y399 a0 (wrap64 (x9_1+1)))=some r:=by first|(rw[hy399];with_reducible exact H)|(have H2_:=(Option.bind_some _ _).symm.trans H;rw[hy399];with_reducible exact H2_)|(have H2_:=(Option.bind_some _ _).symm.trans H;with_reducible exact H2_)|with_reducible exact H|(rw[hy399];exact H)|exact H
          have Ny399:=m0 hy399;clear hy399;have H':=m0 H;clear H
          go_wp2_with (first|((with_reducible refine gate_via_ (t:=12) rfl ?_);refine goesLB_ (some 14) rfl rfl 12 gf bnd lb eg (bnd++ #[.int .i64 x9_1]++lb) rfl (by rfl) (by first|rfl|(simp;done)|(simp;rfl)) ?_;(with_reducible refine(HP.out _ x9_1 true bz A3.out).mono ?_);rintro e w16 ⟨rfl,hb⟩;refine⟨_,rfl,?_⟩;replace HO_5:=rb HO_5 hb;replace HB:=sb HB hb;(try clear hb);obtain⟨Ao17,co17,eo17⟩:=Kd.R_slice HO_5.out;subst eo17;have p397:0≤((ji6):Int):=od;have q397:(ji6)<(x5_1.length:Int):=od;obtain⟨ad397,e397,hx397_0,hx397_1⟩:=at_T29 (Kd.R_reads' HO_5.out).2.2 (ji6) p397 q397;cases e397;replace p397:=eq_true p397;replace q397:=eq_true q397)|((with_reducible refine gate_builtin (b:= .append) (xs:= #[.tmp 36,.tmp 40]) rfl ?_);at_builtin;refine Kd.R_append k29 (w0:=w) w.heap.size rfl (.tmp 36) (.tmp 40) 26 29 (.agg #[(.int .i64 0),(.int .i64 0)]) 16 rfl Try.underlying26 info29 rfl (by decide) (by omega) (.slice (some ad397) x5_1.length co17) x5_1 (⟨x9_1,x9_1⟩:S29) [.int .i64 x9_1,.int .i64 x9_1] (fun _=>True) (fun _=>False) rfl rfl ?aP (fun _ hk=>hk.elim) ?aF ?aO ?aB ?aS ?aL ?_;(case aP=>exact k29_mkM _ _ _ (⟨x9_1,x9_1⟩:S29));(case aB=>exact bz);(case aF=>exact(fun _ _=>trivial));(case aO=>exact(br HO_5.out));(case aS=>exact(below_size bz));(case aL=>have:=LMc15.out;omega);intro v400 w18 ho hb hg hat;rw[← Ny399.out]at ho;have n0_:=m0 (hb);have n1_:=m0 (ho);clear HB;clear HO_5;have HB:=n0_;have HO401:=n1_;clear n0_ n1_;clear ho hb hg hat))
          go_roundg k1
          case measure=>have:=HK1.out;omega
          case rel=>exact⟨(y399),(wrap64 (x9_1+1)),rz,H',⟨by have:=HK1.out;omega⟩,⟨br HO401.out⟩,⟨bz⟩⟩
         ·rw [if_neg c15]at H;exact absurd H (by simp)
       ·rw [if_neg c8]at H;exact absurd H (by simp)
      ·rw [if_neg c7]at H;exact absurd H (by simp)
     ·rw [if_neg c5]at H;have c5b0:=decide_eq_false c5;clear c5
      by_cases c19:x5_1.length<8796093022208
      ·rw [if_pos c19]at H;have LMc19:=m0 c19;clear c19;obtain⟨y402,hy402⟩:∃ y_:List (S29),y_=(x5_1++ [(⟨x9_1,x9_1⟩:S29)]):=⟨_,rfl⟩;replace H:(L_runs.l0 p k1 y402 a0 (wrap64 (x9_1+1)))=some r:=by first|(rw[hy402];with_reducible exact H)|(have H2_:=(Option.bind_some _ _).symm.trans H;rw[hy402];with_reducible exact H2_)|(have H2_:=(Option.bind_some _ _).symm.trans H;with_reducible exact H2_)|with_reducible exact H|(rw[hy402];exact H)|exact H
       have Ny402:=m0 hy402;clear hy402;have H':=m0 H;clear H
       go_wp2_with (first|((with_reducible refine gate_via_ (t:=12) rfl ?_);refine goesLB_ (some 14) rfl rfl 12 gf bnd lb eg (bnd++ #[.int .i64 x9_1]++lb) rfl (by rfl) (by first|rfl|(simp;done)|(simp;rfl)) ?_;(with_reducible refine(HP.out _ x9_1 true bz A3.out).mono ?_);rintro e w20 ⟨rfl,hb⟩;refine⟨_,rfl,?_⟩;replace HO_5:=rb HO_5 hb;replace HB:=sb HB hb;(try clear hb);obtain⟨Ao21,co21,eo21⟩:=Kd.R_slice HO_5.out;subst eo21)|((with_reducible refine gate_builtin (b:= .append) (xs:= #[.tmp 36,.tmp 40]) rfl ?_);at_builtin;refine Kd.R_append k29 (w0:=w) w.heap.size rfl (.tmp 36) (.tmp 40) 26 29 (.agg #[(.int .i64 0),(.int .i64 0)]) 16 rfl Try.underlying26 info29 rfl (by decide) (by omega) (.slice Ao21 x5_1.length co21) x5_1 (⟨x9_1,x9_1⟩:S29) [.int .i64 x9_1,.int .i64 x9_1] (fun _=>True) (fun _=>False) rfl rfl ?aP (fun _ hk=>hk.elim) ?aF ?aO ?aB ?aS ?aL ?_;(case aP=>exact k29_mkM _ _ _ (⟨x9_1,x9_1⟩:S29));(case aB=>exact bz);(case aF=>exact(fun _ _=>trivial));(case aO=>exact(br HO_5.out));(case aS=>exact(below_size bz));(case aL=>have:=LMc19.out;omega);intro v403 w22 ho hb hg hat;rw[← Ny402.out]at ho;have n0_:=m0 (hb);have n1_:=m0 (ho);clear HB;clear HO_5;have HB:=n0_;have HO404:=n1_;clear n0_ n1_;clear ho hb hg hat))
       go_roundg k1
       case measure=>have:=HK1.out;omega
       case rel=>exact⟨(y402),(wrap64 (x9_1+1)),rz,H',⟨by have:=HK1.out;omega⟩,⟨br HO404.out⟩,⟨bz⟩⟩
      ·rw [if_neg c19]at H;exact absurd H (by simp)
    ·replace c4:=Bool.eq_false_iff.mpr c4;subst c4;rw[if_neg (show ¬ (false=true) by decide)]at H;have H':=m0 H;clear H
     go_wp2_with (first|((with_reducible refine gate_via_ (t:=12) rfl ?_);refine goesLB_ (some 14) rfl rfl 12 gf bnd lb eg (bnd++ #[.int .i64 x9_1]++lb) rfl (by rfl) (by first|rfl|(simp;done)|(simp;rfl)) ?_;(with_reducible refine(HP.out _ x9_1 false bz A3.out).mono ?_);rintro e w23 ⟨rfl,hb⟩;refine⟨_,rfl,?_⟩;replace HO_5:=rb HO_5 hb;replace HB:=sb HB hb;(try clear hb)))
     go_roundg k1
     case measure=>have:=HK1.out;omega
     case rel=>exact⟨(x5_1),(wrap64 (x9_1+1)),rz,H',⟨by have:=HK1.out;omega⟩,⟨br HO_5.out⟩,⟨bz⟩⟩
   ·rw [if_neg c2]at H;have c2b0:=decide_eq_false c2;clear c2;obtain rfl:=Option.some.inj H
    go_wp2
    go_ret
    exact⟨_,by first|rfl|(simp[errW_none,errW_some]<;>rfl)|(simp[*,errW_none,errW_some]<;>rfl),by(with_reducible repeat(first|apply Kd.R_alloc|apply Kd.R_drewN|apply Kd.R_drew));exact HO_5.out,by repeat(first|(with_reducible first|exact HB.out|apply below_alloc|apply pw_below_drewN|apply below_drew1)|exact HB.out)⟩
def L_runs_floor.p (l:List Int) (x0:Int):Int→Option Bool:=fun i=>if 0≤i then(if i<(l.length:Int)then some (decide (x0≤rd l i))else none)else none
def L_runs_floor.f (k:Nat) (a0:Int) (l:List Int) (x0 x1 x2:Int):Option (List S29):=L_runs.f (L_runs_floor.p l x0) k a0
theorem L_runs_floor.mono:∀ a0 l x0 x1 x2 k,LeO (L_runs_floor.f k a0 l x0 x1 x2) (L_runs_floor.f (k+1) a0 l x0 x1 x2):=fun a0 l x0 x1 x2 k=>L_runs.mono2 (fun i=>LeO.refl _) a0 k
theorem L_runs_floor.lit {W:World} {B0 B1:Nat} {A:Option Addr} {c:Nat} {l:List Int} {x0 x:Int} (hc0:W.cell? ⟨B0,0,none⟩=some (.slice A l.length c)) (hc1:W.cell? ⟨B1,0,none⟩=some (.int .i64 x0)) (hr:Kd.C (Kd.int .i64) W A l.length l) (h0:0≤x) (h1:x<(l.length:Int)):
  Calls Try.prog 24 #[.int .i64 x,.pointer (some ⟨B0,0,none⟩),.pointer (some ⟨B1,0,none⟩)] W fun e w'=>e= .returned (.bool (decide (x0≤rd l x)))∧Drawn0 W w':=by
 obtain⟨ad,e,hx⟩:=Kd.at_int hr x h0 h1;subst e;have p0:=eq_true h0;have q0:=eq_true h1;clear hr h0 h1;go_enter Try.func24,Try.ntmps24
 go_wp2
 repeat(go_quiet (fail);try go_wp2)
 go_ret
 exact⟨rz,by repeat(first|exact Drawn0.refl _|apply Drawn0.step)⟩
theorem L_runs_floor.calls (k:Nat) (a0:Int) (B0 B1:Nat) (A:Option Addr) (c:Nat) (l:List Int) (x0 x1 x2:Int) (r:List S29) (w:World) (hb0:w.heap[B0]?=some (.cells #[.slice A l.length c] 54 (0,0))) (hb1:w.heap[B1]?=some (.cells #[.int .i64 x0,.int .i64 x1,.int .i64 x2] 37 (0,0))) (hr:Kd.C (Kd.int .i64) w A l.length l) (hc:l.length≤c) (h:L_runs_floor.f k a0 l x0 x1 x2=some r):
  Calls Try.prog 23 #[.int .i64 a0,.func (.func 24) #[] #[.pointer (some ⟨B0,0,none⟩),.pointer (some ⟨B1,0,none⟩)]] w fun e w'=>∃ v0_:Value,e= .returned v0_∧Kd.R k29 29 w' w.heap.size (fun _=>True) v0_ r∧Below w.heap.size w w':=by
 refine L_runs.own (L_runs_floor.p l x0) _ _ _ (enters_of Try.func24 (by kernel_rfl) rfl) k a0 r w ?_ h;intro W x b hB hb;unfold L_runs_floor.p at hb
 by_cases h0:0≤x
 case neg=>rw[if_neg h0]at hb;exact absurd hb (by simp)
 rw[if_pos h0]at hb
 by_cases h1:x<(l.length:Int)
 case neg=>rw[if_neg h1]at hb;exact absurd hb (by simp)
 rw[if_pos h1]at hb;obtain rfl:=Option.some.inj hb;have hc0:W.cell? ⟨B0,0,none⟩=some (.slice A l.length c):=(blk_cell (blk_below hb0 hB) 0).trans rfl;have hc1:W.cell? ⟨B1,0,none⟩=some (.int .i64 x0):=(blk_cell (blk_below hb1 hB) 0).trans rfl;exact(L_runs_floor.lit hc0 hc1 (Kd.C_below hr hB) h0 h1).mono fun e w' h=>⟨h.1,by obtain⟨q,rfl⟩:=h.2.out;exact pw_below_drewN (Below.refl _ _) _⟩
end
section
def L_LayersIn_2.f (a0_0:Int) (a0_1:Int) (a1:Int):Option (Bool):=some (decide ((wrap64 ((wrap64 (a0_1-a0_0))+1))<a1))
theorem L_LayersIn_2.calls (a0_0:Int) (a0_1:Int) (a1:Int) (r:Bool) (B:Nat) (b0 b1:Int) (w:World) (hbx:w.heap[B]?=some (.cells #[.int .i64 b0,.int .i64 b1,.int .i64 a1] 37 (0,0))) (H:L_LayersIn_2.f a0_0 a0_1 a1=some r):
  Calls Try.prog 26 #[.agg #[.int .i64 a0_0,.int .i64 a0_1],.pointer (some ⟨B,0,none⟩)] w fun e w'=>e= .returned (.bool r)∧Below w.heap.size w w':=by
 have hu29:=Try.underlying29;have HX:=m0 hbx;clear hbx;have HB:=m0 (Below.refl w.heap.size w);unfold L_LayersIn_2.f at H;obtain rfl:=Option.some.inj H;go_enter Try.func26,Try.ntmps26
 go_wp2_with (first|((with_reducible refine ga 2 rfl ?_);refine be 2 29 #[.int .i64 a0_0,.int .i64 a0_1] ?_;intro gb405 hg w3 hbox hb;have BK405:=m0 hbox;have GE405:=gw w hg;replace HB:=sb HB hb;clear hb hbox hg;have hcx:w3.cell? ⟨B,2,none⟩=some (.int .i64 a1):=(blk_cell (blk_below HX.out HB.out) 2).trans rfl;obtain⟨_,_,_,_⟩:=b2 BK405))
 go_ret
 exact ez
end
section
/-- A call through a variable that holds a function with captured values. -/
theorem goesLC_ {P:Program} {ops:Array Oper} {Q:Exit→Act→World→Prop} {rest:List Oper} {oi:Oper} {a:Act} {w:World} (N:Option Tmp) (hd:oi.dst=N) (hg:oi.guard=none) {f:FuncId} {fn:Func} {av:Array Operand} {ts:Array TypeId} (t:Tmp) (cs:Array Value) (hf:P.funcs[f]?=some fn) (hname:(fn.name== "runtime.NumGoroutine")=false) (hb:fn.body.isSome=true) (args:Array Value)
  (hop:oi.op= .call {callee:= .value (.tmp t),args:=av,argTypes:=ts }) (ht:a.tmps[t]?=some (.func (.func f) #[] cs)) (hargs:av.map a.eval++cs=args)
  (h:Calls P f args w fun e w'=>∃ v,e= .returned v∧wpList P ops Q rest (a.put N v) w'):wpList P ops Q (oi::rest) a w:=by
 refine wpList_plain hg fun K hK=>?_;have he:=enters_ hf hname hb args w;have hrun:(execOp a.eval oi).run P w= .ok (.enter f args) w:=by
  unfold execOp
  simp[hop,resolve,Deferred.ofValue,invoke,Act.eval,ht]
  simpa [Act.eval,hargs]using he
 unfold Oper.wp;rw[hrun,Oper.upon_enter];refine h.mono fun e w'' hh=>?_;obtain⟨v,rfl,hk⟩:=hh;subst hd;exact hK _ _ hk
def api_Range_42.l0:Nat→List (S29)→Int→Int→Int→Option (Int)
 |0,_,_,_,_=>none
 |k+1,x0,x1,x7,x8=>if x8<x7 then(if 0≤x8 then(if x8<(x0.length:Int)then((L_LayersIn_2.f ((rd_T29 x0 x8).f0) ((rd_T29 x0 x8).f1) x1).bind fun t407=>(if t407=true then(some x8)else(api_Range_42.l0 k x0 x1 x7 (wrap64 (x8+1)))))else(none))else(none))else(some (-1))
def api_Range_42.f (k:Nat) (l0:List (S29)) (a1:Int):Option (Int):=api_Range_42.l0 k l0 a1 (l0.length:Int) 0
theorem api_Range_42.mono_l:∀ k,(∀ y0 y1 y2 y3,LeO (api_Range_42.l0 k y0 y1 y2 y3) (api_Range_42.l0 (k+1) y0 y1 y2 y3))
 |0=>fun _ _ _ _ r h=>by simp[api_Range_42.l0]at h
 | k+1=>by
  have ih0:=api_Range_42.mono_l k
  ·intro y0 y1 y2 y3;unfold api_Range_42.l0
   repeat' with_reducible first
    |exact ih0 ..
    |exact LeO.refl ..
    |exact LeO.none ..
    |refine LeO.ite ?_ ?_
    |refine LeO.bind ?_ (fun _=>?_)
theorem api_Range_42.mono:∀ a0 a1 k,LeO (api_Range_42.f k a0 a1) (api_Range_42.f (k+1) a0 a1):=by
 intro a0 a1 k;have ih0:=api_Range_42.mono_l k;unfold api_Range_42.f
 repeat' with_reducible first
  |exact ih0 ..
  |exact LeO.refl ..
  |exact LeO.none ..
  |refine LeO.ite ?_ ?_
  |refine LeO.bind ?_ (fun _=>?_)
theorem api_Range_42.calls (k:Nat) (A0:Option Addr) (c0:Nat) (l0:List (S29)) (a1:Int) (r:Int) (B:Nat) (b0 b1:Int) (w:World) (hbx:w.heap[B]?=some (.cells #[.int .i64 b0,.int .i64 b1,.int .i64 a1] 37 (0,0))) (hr0:Kd.C k29 w A0 l0.length l0) (hc0:l0.length≤c0) (H:api_Range_42.f k l0 a1=some r):
  Calls Try.prog 42 #[.slice A0 l0.length c0,.func (.func 26) #[] #[.pointer (some ⟨B,0,none⟩)]] w fun e w'=>e= .returned (.int .i64 r)∧Below w.heap.size w w':=by
 have hu29:=Try.underlying29;have HX:=m0 hbx;clear hbx;have HR0:=m0 hr0;have HC0:=m0 hc0;clear hr0 hc0;have HB:=m0 (Below.refl w.heap.size w);unfold api_Range_42.f at H;have H':=m0 H;clear H;go_enter Try.func42,Try.ntmps42
 go_wp2
 go_loopg [8] k (fun kq v8 w'=>∃ (x8_1:Int),v8= .int .i64 x8_1∧Aside0 (api_Range_42.l0 kq l0 a1 (l0.length:Int) x8_1=some r)∧Aside0 (kq≤k)∧Aside0 (Below w.heap.size w w'))
 case atStart=>exact⟨(0),rz,H',⟨Nat.le_refl _⟩,⟨bz⟩⟩
 case round=>
  clear H';obtain⟨x8_1,rfl,HA,HK1,HB⟩:=hrel
  cases gk with
  |zero=>exact absurd HA.out (by simp[api_Range_42.l0])
  | succ k1=>
   have H:=HA.out;clear HA;simp only[api_Range_42.l0]at H
   by_cases c3:x8_1<(l0.length:Int)
   ·rw [if_pos c3]at H;have c3b0:=decide_eq_true c3;clear c3
    by_cases c4:0≤x8_1
    ·rw [if_pos c4]at H;have c4b0:=decide_eq_true c4;clear c4
     by_cases c5:x8_1<(l0.length:Int)
     ·rw [if_pos c5]at H;have c5b0:=decide_eq_true c5;clear c5;replace H:=oa H;obtain⟨t407,A6,H⟩:=H;(try dsimp only at H)
      by_cases c7:t407=true
      ·subst c7;rw[if_pos rfl]at H;obtain rfl:=Option.some.inj H;have p406:0≤(x8_1:Int):=od;have q406:x8_1<(l0.length:Int):=od;obtain⟨ad406,e406,hx406_0,hx406_1⟩:=at_T29 HR0.out x8_1 p406 q406
       cases e406
       replace hx406_0:=hc HB hx406_0;replace hx406_1:=hc HB hx406_1;replace p406:=eq_true p406;replace q406:=eq_true q406
       go_wp2_with (first|((with_reducible refine gate_via_ (t:=11) rfl ?_);refine goesLC_ (some 16) rfl rfl 11 #[.pointer (some ⟨B,0,none⟩)] Try.func26 (by kernel_rfl) rfl #[.agg #[.int .i64 ((rd_T29 l0 x8_1).f0),.int .i64 ((rd_T29 l0 x8_1).f1)],.pointer (some ⟨B,0,none⟩)] rfl (by rfl) (by first|rfl|(simp;done)|(simp;rfl)) ?_;(with_reducible refine(L_LayersIn_2.calls ((rd_T29 l0 x8_1).f0) ((rd_T29 l0 x8_1).f1) a1 true B b0 b1 _ ?sideb A6.out).mono ?_);(case sideb=>exact(by(with_reducible repeat(first|refine blk_drewN ?_ _|refine blk_drew ?_|refine blk_alloc ?_ _));exact blk_below HX.out HB.out));rintro e w8 ⟨rfl,hb⟩;refine⟨_,rfl,?_⟩;replace HB:=sb HB hb;(try clear hb)))
       go_ret
       exact ez
      ·replace c7:=Bool.eq_false_iff.mpr c7;subst c7;rw[if_neg (show ¬ (false=true) by decide)]at H;have H':=m0 H;clear H;have p406:0≤(x8_1:Int):=od;have q406:x8_1<(l0.length:Int):=od;obtain⟨ad406,e406,hx406_0,hx406_1⟩:=at_T29 HR0.out x8_1 p406 q406
       cases e406
       replace hx406_0:=hc HB hx406_0;replace hx406_1:=hc HB hx406_1;replace p406:=eq_true p406;replace q406:=eq_true q406
       go_wp2_with (first|((with_reducible refine gate_via_ (t:=11) rfl ?_);refine goesLC_ (some 16) rfl rfl 11 #[.pointer (some ⟨B,0,none⟩)] Try.func26 (by kernel_rfl) rfl #[.agg #[.int .i64 ((rd_T29 l0 x8_1).f0),.int .i64 ((rd_T29 l0 x8_1).f1)],.pointer (some ⟨B,0,none⟩)] rfl (by rfl) (by first|rfl|(simp;done)|(simp;rfl)) ?_;(with_reducible refine(L_LayersIn_2.calls ((rd_T29 l0 x8_1).f0) ((rd_T29 l0 x8_1).f1) a1 false B b0 b1 _ ?sideb A6.out).mono ?_);(case sideb=>exact(by(with_reducible repeat(first|refine blk_drewN ?_ _|refine blk_drew ?_|refine blk_alloc ?_ _));exact blk_below HX.out HB.out));rintro e w9 ⟨rfl,hb⟩;refine⟨_,rfl,?_⟩;replace HB:=sb HB hb;(try clear hb)))
       go_roundg k1
       case measure=>have:=HK1.out;omega
       case rel=>exact⟨(wrap64 (x8_1+1)),rz,H',⟨by have:=HK1.out;omega⟩,⟨bz⟩⟩
     ·rw [if_neg c5]at H;exact absurd H (by simp)
    ·rw [if_neg c4]at H;exact absurd H (by simp)
   ·rw [if_neg c3]at H;have c3b0:=decide_eq_false c3;clear c3;obtain rfl:=Option.some.inj H
    go_wp2
    go_ret
    exact ez
end
end Go.Proofs.Ytggiijffaifajaa.A
