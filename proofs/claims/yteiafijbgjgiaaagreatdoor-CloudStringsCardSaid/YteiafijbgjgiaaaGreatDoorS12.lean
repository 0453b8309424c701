/- Walks of the program's functions (printed, made shorter), each with what it computes. -/
import Derived.Test.YteiafijbgjgiaaaGreatDoorS11
namespace Go.Proofs.YteiafijbgjgiaaaGreatDoor.A
set_option maxHeartbeats 8000000
set_option maxRecDepth 100000
open Go.RowKit Go.Proofs.YteiafijbgjgiaaaGreatDoorW.PrintWords Go.Proofs.YteiafijbgjgiaaaGreatDoorW.PrintLast Go.Proofs.YteiafijbgjgiaaaGreatDoorW.PrintMore
attribute [local go_sem] max2_int min2_int max_two min_two max_three min_three max_four min_four
set_option linter.unusedVariables false
set_option linter.unusedSimpArgs false
section
def L_SegmentsOf.f (k:Nat) (l0:List Int) (a1:Int):Option (List Int×Int×Int):=(L_openDivision.f k l0 a1).bind fun bt197=>(if bt197.2=0 then((L_profile_divisions.f k bt197.1 a1).bind fun t201=>(if 0≤(bt197.1.length:Int)then(if(bt197.1.length:Int)<(t201.length:Int)then(some ((rd_T85 t201 (bt197.1.length:Int)).f1,(rd_T85 t201 (bt197.1.length:Int)).f0,0))else(none))else(none)))else(some (([]:List Int),0,bt197.2)))
theorem L_SegmentsOf.mono:∀ a0 a1 k,LeO (L_SegmentsOf.f k a0 a1) (L_SegmentsOf.f (k+1) a0 a1):=by
 intro a0 a1 k;unfold L_SegmentsOf.f
 have m1:=@L_openDivision.mono;have m2:=@L_profile_divisions.mono;exact lz
theorem L_SegmentsOf.calls (k:Nat) (P0_:Nat→Prop) (A0:Option Addr) (c0:Nat) (l0:List Int) (a1:Int) (r1:List Int) (r2:Int) (r3:Int) (w:World) (hs0:Kd.V (Kd.int .i64) 3 w w.heap.size (fun k_=>P0_ k_) (.slice A0 l0.length c0) l0) (H:L_SegmentsOf.f k l0 a1=some (r1,r2,r3)):
  Calls Tryz.prog 21 #[.slice A0 l0.length c0,.int .i64 a1] w fun e w'=>∃ v0_:Value,e= .returned (.tuple #[v0_,.int .i64 r2,.int .i64 r3])∧Kd.V (Kd.int .i64) 3 w' w.heap.size (fun k_=>(P0_ k_∨w.heap.size≤k_)) v0_ r1∧Below w.heap.size w w':=by
 have hu85:=Tryz.underlying85;have HO0:=m0 (show Kd.V (Kd.int .i64) 3 w w.heap.size (fun k_=>(P0_ k_∨w.heap.size≤k_)) (.slice A0 l0.length c0) l0 from Kd.V_mono hs0 (fun k_ hk=> .inl hk));have HB:=m0 (Below.refl w.heap.size w);unfold L_SegmentsOf.f at H;replace H:=oa H;obtain⟨⟨t197,t200⟩,A3,H⟩:=H;(try dsimp only at H)
 by_cases c4:t200=0
 ·rw [if_pos c4]at H;have c4b0:=beq_iff_eq.mpr c4;have c4b1:=bne_eq_false_iff_eq.mpr c4;clear c4;replace H:=oa H;obtain⟨t201,A5,H⟩:=H;(try dsimp only at H)
  by_cases c6:0≤(t197.length:Int)
  ·rw [if_pos c6]at H;have c6b0:=decide_eq_true c6;have c6b1:decide (0≤t197.length)=true:=decide_eq_true (by omega);clear c6
   by_cases c7:(t197.length:Int)<(t201.length:Int)
   ·rw [if_pos c7]at H;have c7b0:=decide_eq_true c7;have c7b1:decide (t197.length<t201.length)=true:=decide_eq_true (Int.ofNat_lt.mp c7);clear c7;simp only[Option.some.injEq,Prod.mk.injEq]at H;obtain⟨rfl,rfl,rfl⟩:=H;go_enter Tryz.func21,Tryz.ntmps21
    go_wp2_with (first|(go_at_call 43;(with_reducible refine(L_openDivision.calls k (fun k_=>(P0_ k_∨w.heap.size≤k_)) _ _ l0 a1 t197 t200 _ ?side1 A3.out).mono ?_);(case side1=>exact HO0.out);rintro e w8 ⟨v198,rfl,ho0,hb⟩;replace HO0:=vb HO0 hb;have HO199:=hv w (fun k_=>(P0_ k_∨w.heap.size≤k_)) ho0 (fun k_ hk_=>Or.elim hk_ (fun hs_=>hs_) (fs ·));replace HB:=sb HB hb;(try clear hb);(try clear ho0);obtain⟨Ao9,co9,eo9⟩:=Kd.V_slice HO199.out;subst eo9)|(go_at_call 44;(with_reducible refine(L_profile_divisions.calls k _ _ t197 a1 t201 _ ?side1 ?side2 A5.out).mono ?_);(case side1=>exact bc (Kd.V_reads' HO199.out).2.2);(case side2=>exact(Kd.V_reads' HO199.out).2.1);rintro e w10 ⟨v202,rfl,ho0,hb⟩;replace HO0:=m0 (Kd.V_elder' (va HO0.out) (Kd.N_base ho0) hb);replace HO199:=m0 (Kd.V_elder' (va HO199.out) (Kd.N_base ho0) hb);have HO203:=m0 (Kd.N_lower (Kd.N_mono (ok':=fun k_=>(P0_ k_∨w.heap.size≤k_)) ho0 (fun k_ hk_=>(.inr (Nat.le_trans (below_size bz) hk_)))) (below_size bz));replace HB:=sb HB hb;(try clear hb);(try clear ho0);obtain⟨Ao11,co11,eo11⟩:=Kd.N_slice HO203.out;subst eo11;have p204:0≤((t197.length:Int):Int):=od;have q204:(t197.length:Int)<(t201.length:Int):=od;obtain⟨ad204,A204_1,c204_1,e204,hx204_0,hx204_1,hl204_1,hi204_1⟩:=at_T85 (Kd.N_reads' HO203.out).2.2 (t197.length:Int) p204 q204;cases e204;obtain⟨ce204,hce204,hMe204,hcc204⟩:=Kd.N_get HO203.out z85 (t197.length:Int) p204 (by first|exact q204|exact od|(have e_:=(Kd.N_reads' HO203.out).1;omega));obtain⟨ua204_1,uc204_1,rfl,ul204_1,ge204_1⟩:=k85_openF hMe204;have hv204_1:=hcc204 1 _ rfl;rw[add_field _ _ 1 (by omega)]at hv204_1;replace hv204_1:=Option.some.inj (hv204_1.symm.trans hx204_1);injection hv204_1 with hva_ hvn_ hvc_;rw[hva_]at ge204_1;rw[hvc_]at ul204_1;have HL204_1:=m0 (show Kd.V (Kd.int .i64) 3 _ w.heap.size _ _ ((rd_T85 t201 (t197.length:Int)).f1)from Kd.V_mk ul204_1 ge204_1);clear hva_ hvn_ hvc_ ge204_1 ul204_1;clear hcc204 hce204;have HR204_1:=m0 hi204_1;have HC204_1:=m0 hl204_1;clear hi204_1 hl204_1;(try simp only[Go.IntWalk.toNatUp]at hx204_0);(try simp only[Go.IntWalk.toNatUp]at hx204_1);replace p204:=eq_true p204;replace q204:=eq_true q204)|((with_reducible refine ga 9 rfl ?_);refine be 9 85 #[.int .i64 0,.slice none 0 0] ?_;intro gb205 hg w12 hbox hb;replace HO0:=ve HO0 hg hb;replace HO199:=ve HO199 hg hb;replace HO203:=m0 (Kd.N_below (Kd.N_elderB (na HO203.out) gb205 (Nat.le_of_eq hg.symm)) hb);replace HL204_1:=ve HL204_1 hg hb;replace HR204_1:=m0 (Kd.C_below (by repeat(first|(with_reducible exact HR204_1.out)|(with_reducible refine Kd.C_alloc ?_ _)|(with_reducible refine Kd.C_drewN ?_ _)|(with_reducible refine Kd.C_drew ?_)|exact HR204_1.out)) hb);have BK205:=m0 hbox;have GE205:=gw w hg;replace HB:=sb HB hb;clear hb hbox hg;obtain⟨hcz13_0,hcz13_1,hfz13_0,hfz13_1⟩:=b2 BK205))
    repeat(go_quiet (first|(go_at_call 43;(with_reducible refine(L_openDivision.calls k (fun k_=>(P0_ k_∨w.heap.size≤k_)) _ _ l0 a1 t197 t200 _ ?side1 A3.out).mono ?_);(case side1=>exact HO0.out);rintro e w8 ⟨v198,rfl,ho0,hb⟩;replace HO0:=vb HO0 hb;have HO199:=hv w (fun k_=>(P0_ k_∨w.heap.size≤k_)) ho0 (fun k_ hk_=>Or.elim hk_ (fun hs_=>hs_) (fs ·));replace HB:=sb HB hb;(try clear hb);(try clear ho0);obtain⟨Ao9,co9,eo9⟩:=Kd.V_slice HO199.out;subst eo9)|(go_at_call 44;(with_reducible refine(L_profile_divisions.calls k _ _ t197 a1 t201 _ ?side1 ?side2 A5.out).mono ?_);(case side1=>exact bc (Kd.V_reads' HO199.out).2.2);(case side2=>exact(Kd.V_reads' HO199.out).2.1);rintro e w10 ⟨v202,rfl,ho0,hb⟩;replace HO0:=m0 (Kd.V_elder' (va HO0.out) (Kd.N_base ho0) hb);replace HO199:=m0 (Kd.V_elder' (va HO199.out) (Kd.N_base ho0) hb);have HO203:=m0 (Kd.N_lower (Kd.N_mono (ok':=fun k_=>(P0_ k_∨w.heap.size≤k_)) ho0 (fun k_ hk_=>(.inr (Nat.le_trans (below_size bz) hk_)))) (below_size bz));replace HB:=sb HB hb;(try clear hb);(try clear ho0);obtain⟨Ao11,co11,eo11⟩:=Kd.N_slice HO203.out;subst eo11;have p204:0≤((t197.length:Int):Int):=od;have q204:(t197.length:Int)<(t201.length:Int):=od;obtain⟨ad204,A204_1,c204_1,e204,hx204_0,hx204_1,hl204_1,hi204_1⟩:=at_T85 (Kd.N_reads' HO203.out).2.2 (t197.length:Int) p204 q204;cases e204;obtain⟨ce204,hce204,hMe204,hcc204⟩:=Kd.N_get HO203.out z85 (t197.length:Int) p204 (by first|exact q204|exact od|(have e_:=(Kd.N_reads' HO203.out).1;omega));obtain⟨ua204_1,uc204_1,rfl,ul204_1,ge204_1⟩:=k85_openF hMe204;have hv204_1:=hcc204 1 _ rfl;rw[add_field _ _ 1 (by omega)]at hv204_1;replace hv204_1:=Option.some.inj (hv204_1.symm.trans hx204_1);injection hv204_1 with hva_ hvn_ hvc_;rw[hva_]at ge204_1;rw[hvc_]at ul204_1;have HL204_1:=m0 (show Kd.V (Kd.int .i64) 3 _ w.heap.size _ _ ((rd_T85 t201 (t197.length:Int)).f1)from Kd.V_mk ul204_1 ge204_1);clear hva_ hvn_ hvc_ ge204_1 ul204_1;clear hcc204 hce204;have HR204_1:=m0 hi204_1;have HC204_1:=m0 hl204_1;clear hi204_1 hl204_1;(try simp only[Go.IntWalk.toNatUp]at hx204_0);(try simp only[Go.IntWalk.toNatUp]at hx204_1);replace p204:=eq_true p204;replace q204:=eq_true q204)|((with_reducible refine ga 9 rfl ?_);refine be 9 85 #[.int .i64 0,.slice none 0 0] ?_;intro gb205 hg w12 hbox hb;replace HO0:=ve HO0 hg hb;replace HO199:=ve HO199 hg hb;replace HO203:=m0 (Kd.N_below (Kd.N_elderB (na HO203.out) gb205 (Nat.le_of_eq hg.symm)) hb);replace HL204_1:=ve HL204_1 hg hb;replace HR204_1:=m0 (Kd.C_below (by repeat(first|(with_reducible exact HR204_1.out)|(with_reducible refine Kd.C_alloc ?_ _)|(with_reducible refine Kd.C_drewN ?_ _)|(with_reducible refine Kd.C_drew ?_)|exact HR204_1.out)) hb);have BK205:=m0 hbox;have GE205:=gw w hg;replace HB:=sb HB hb;clear hb hbox hg;obtain⟨hcz13_0,hcz13_1,hfz13_0,hfz13_1⟩:=b2 BK205));try go_wp2_with (first|(go_at_call 43;(with_reducible refine(L_openDivision.calls k (fun k_=>(P0_ k_∨w.heap.size≤k_)) _ _ l0 a1 t197 t200 _ ?side1 A3.out).mono ?_);(case side1=>exact HO0.out);rintro e w8 ⟨v198,rfl,ho0,hb⟩;replace HO0:=vb HO0 hb;have HO199:=hv w (fun k_=>(P0_ k_∨w.heap.size≤k_)) ho0 (fun k_ hk_=>Or.elim hk_ (fun hs_=>hs_) (fs ·));replace HB:=sb HB hb;(try clear hb);(try clear ho0);obtain⟨Ao9,co9,eo9⟩:=Kd.V_slice HO199.out;subst eo9)|(go_at_call 44;(with_reducible refine(L_profile_divisions.calls k _ _ t197 a1 t201 _ ?side1 ?side2 A5.out).mono ?_);(case side1=>exact bc (Kd.V_reads' HO199.out).2.2);(case side2=>exact(Kd.V_reads' HO199.out).2.1);rintro e w10 ⟨v202,rfl,ho0,hb⟩;replace HO0:=m0 (Kd.V_elder' (va HO0.out) (Kd.N_base ho0) hb);replace HO199:=m0 (Kd.V_elder' (va HO199.out) (Kd.N_base ho0) hb);have HO203:=m0 (Kd.N_lower (Kd.N_mono (ok':=fun k_=>(P0_ k_∨w.heap.size≤k_)) ho0 (fun k_ hk_=>(.inr (Nat.le_trans (below_size bz) hk_)))) (below_size bz));replace HB:=sb HB hb;(try clear hb);(try clear ho0);obtain⟨Ao11,co11,eo11⟩:=Kd.N_slice HO203.out;subst eo11;have p204:0≤((t197.length:Int):Int):=od;have q204:(t197.length:Int)<(t201.length:Int):=od;obtain⟨ad204,A204_1,c204_1,e204,hx204_0,hx204_1,hl204_1,hi204_1⟩:=at_T85 (Kd.N_reads' HO203.out).2.2 (t197.length:Int) p204 q204;cases e204;obtain⟨ce204,hce204,hMe204,hcc204⟩:=Kd.N_get HO203.out z85 (t197.length:Int) p204 (by first|exact q204|exact od|(have e_:=(Kd.N_reads' HO203.out).1;omega));obtain⟨ua204_1,uc204_1,rfl,ul204_1,ge204_1⟩:=k85_openF hMe204;have hv204_1:=hcc204 1 _ rfl;rw[add_field _ _ 1 (by omega)]at hv204_1;replace hv204_1:=Option.some.inj (hv204_1.symm.trans hx204_1);injection hv204_1 with hva_ hvn_ hvc_;rw[hva_]at ge204_1;rw[hvc_]at ul204_1;have HL204_1:=m0 (show Kd.V (Kd.int .i64) 3 _ w.heap.size _ _ ((rd_T85 t201 (t197.length:Int)).f1)from Kd.V_mk ul204_1 ge204_1);clear hva_ hvn_ hvc_ ge204_1 ul204_1;clear hcc204 hce204;have HR204_1:=m0 hi204_1;have HC204_1:=m0 hl204_1;clear hi204_1 hl204_1;(try simp only[Go.IntWalk.toNatUp]at hx204_0);(try simp only[Go.IntWalk.toNatUp]at hx204_1);replace p204:=eq_true p204;replace q204:=eq_true q204)|((with_reducible refine ga 9 rfl ?_);refine be 9 85 #[.int .i64 0,.slice none 0 0] ?_;intro gb205 hg w12 hbox hb;replace HO0:=ve HO0 hg hb;replace HO199:=ve HO199 hg hb;replace HO203:=m0 (Kd.N_below (Kd.N_elderB (na HO203.out) gb205 (Nat.le_of_eq hg.symm)) hb);replace HL204_1:=ve HL204_1 hg hb;replace HR204_1:=m0 (Kd.C_below (by repeat(first|(with_reducible exact HR204_1.out)|(with_reducible refine Kd.C_alloc ?_ _)|(with_reducible refine Kd.C_drewN ?_ _)|(with_reducible refine Kd.C_drew ?_)|exact HR204_1.out)) hb);have BK205:=m0 hbox;have GE205:=gw w hg;replace HB:=sb HB hb;clear hb hbox hg;obtain⟨hcz13_0,hcz13_1,hfz13_0,hfz13_1⟩:=b2 BK205)))
    go_ret3
    exact⟨_,e4,by(with_reducible repeat(first|apply Kd.V_alloc|apply Kd.V_drewN|apply Kd.V_drew));exact Kd.V_mono (vf (vf (vn gb205 HL204_1.out (·.2)) (·.2)) (·.2)) (fun _ hk=>hk.1.1.1),bz⟩
   ·rw [if_neg c7]at H;exact absurd H (by simp)
  ·rw [if_neg c6]at H;exact absurd H (by simp)
 ·rw [if_neg c4]at H;have c4b0:=beq_eq_false_iff_ne.mpr c4;have c4b1:=bne_iff_ne.mpr c4;simp only[Option.some.injEq,Prod.mk.injEq]at H;obtain⟨rfl,rfl,rfl⟩:=H;go_enter Tryz.func21,Tryz.ntmps21
  go_wp2_with (first|(go_at_call 43;(with_reducible refine(L_openDivision.calls k (fun k_=>(P0_ k_∨w.heap.size≤k_)) _ _ l0 a1 t197 t200 _ ?side1 A3.out).mono ?_);(case side1=>exact HO0.out);rintro e w14 ⟨v198,rfl,ho0,hb⟩;replace HO0:=vb HO0 hb;have HO199:=hv w (fun k_=>(P0_ k_∨w.heap.size≤k_)) ho0 (fun k_ hk_=>Or.elim hk_ (fun hs_=>hs_) (fs ·));replace HB:=sb HB hb;(try clear hb);(try clear ho0)))
  repeat(go_quiet (first|(go_at_call 43;(with_reducible refine(L_openDivision.calls k (fun k_=>(P0_ k_∨w.heap.size≤k_)) _ _ l0 a1 t197 t200 _ ?side1 A3.out).mono ?_);(case side1=>exact HO0.out);rintro e w14 ⟨v198,rfl,ho0,hb⟩;replace HO0:=vb HO0 hb;have HO199:=hv w (fun k_=>(P0_ k_∨w.heap.size≤k_)) ho0 (fun k_ hk_=>Or.elim hk_ (fun hs_=>hs_) (fs ·));replace HB:=sb HB hb;(try clear hb);(try clear ho0)));try go_wp2_with (first|(go_at_call 43;(with_reducible refine(L_openDivision.calls k (fun k_=>(P0_ k_∨w.heap.size≤k_)) _ _ l0 a1 t197 t200 _ ?side1 A3.out).mono ?_);(case side1=>exact HO0.out);rintro e w14 ⟨v198,rfl,ho0,hb⟩;replace HO0:=vb HO0 hb;have HO199:=hv w (fun k_=>(P0_ k_∨w.heap.size≤k_)) ho0 (fun k_ hk_=>Or.elim hk_ (fun hs_=>hs_) (fs ·));replace HB:=sb HB hb;(try clear hb);(try clear ho0))))
  go_ret3
  exact⟨_,e4,Kd.V_nil _ _ _ _ _,bz⟩
end
section
def L_isHeight.f (a0:Int):Option (Bool):=(L_within.f a0 0 20000).bind fun t206=>(some t206)
theorem L_isHeight.calls (a0:Int) (r:Bool) (w:World) (H:L_isHeight.f a0=some r):
  Calls Tryz.prog 65 #[.int .i64 a0] w fun e w'=>e= .returned (.bool r)∧Drawn0 w w':=by
 unfold L_isHeight.f at H;replace H:=oa H;obtain⟨t206,A2,H⟩:=H;(try dsimp only at H);obtain rfl:=Option.some.inj H;go_enter Tryz.func65,Tryz.ntmps65
 go_wp2_with (first|((with_reducible refine gc 46 rfl ?_);refine gl (some 4) Tryz.func46 #[.int .i64 a0,.int .i64 0,.int .i64 20000] ?_;(with_reducible refine(L_within.calls a0 0 20000 t206 _ A2.out).mono ?_);rintro e w' ⟨rfl,⟨nd,rfl⟩⟩;refine⟨_,rfl,?_⟩))
 go_ret
 exact⟨rz,dz⟩
end
section
def L_CheckLayers_1.f (k:Nat) (a0_0:Int) (a0_1:Int) (a0_2:Int):Option (Int):=(L_isHeight.f a0_0).bind fun t208=>(if t208=true then((L_isHeight.f a0_1).bind fun t209=>(if t209=true then((L_within.f a0_2 0 8).bind fun t210=>((L_unless.f t210 2).bind fun t211=>((L_unless.f (decide (a0_0<a0_1)) 9).bind fun t212=>((L_first.f k (([t211,t212]:List Int))).bind fun t216=>(some t216)))))else((L_unless.f false 2).bind fun t217=>((L_unless.f (decide (a0_0<a0_1)) 9).bind fun t218=>((L_first.f k (([t217,t218]:List Int))).bind fun t222=>(some t222))))))else((L_unless.f false 2).bind fun t223=>((L_unless.f (decide (a0_0<a0_1)) 9).bind fun t224=>((L_first.f k (([t223,t224]:List Int))).bind fun t228=>(some t228)))))
theorem L_CheckLayers_1.mono:∀ a0 a1 a2 k,LeO (L_CheckLayers_1.f k a0 a1 a2) (L_CheckLayers_1.f (k+1) a0 a1 a2):=by
 intro a0 a1 a2 k;unfold L_CheckLayers_1.f
 have m1:=@L_first.mono;exact lz
def L_CheckLayers_1.T2:Bool×List (List Nat×List Nat):=(true,[([],[]),([0],[0]),([],[]),([2],[2]),([],[]),([4],[4]),([3,5],[3,5]),([6,1],[6]),([1,7],[1,7]),([8,7],[8]),([9,9,0,1,2,3,4,5,6,7,8,9],[9])])
def L_CheckLayers_1.B2:List Nat:=[0,1,0,4,0,16,60,127,255,511,1023]
theorem L_CheckLayers_1.tab2:rtab .any (opsOf Tryz.f64 2)=L_CheckLayers_1.T2:=by kernel_rfl
theorem L_CheckLayers_1.bits2:waitsOk L_CheckLayers_1.T2.2 L_CheckLayers_1.B2=true:=by kernel_rfl
theorem L_CheckLayers_1.m1 {P:Prop} (h:P:=by
 rintro e w' ⟨rfl,⟨nd,rfl⟩⟩;refine⟨_,rfl,?_⟩;refine hK.out _ _ cz (fun hH=>?_);clear hK K;refine nz 18 ?_;refine oneZ 7 (some 24) (bs 11 255) (o1 HT_) fun K hK=>?_;refine gz Tryz.func45 #[.bool (decide (a0_0<a0_1)),.int .i64 9] ?_
 with_reducible refine(L_unless.calls (decide (a0_0<a0_1)) 9 t212 _ A8.out).mono ?_
 rintro e w' ⟨rfl,⟨nd,rfl⟩⟩;refine⟨_,rfl,?_⟩;refine hK.out _ _ cz (fun hH=>?_);clear hK K;refine nz 24 ?_;refine oneZ 8 (some 25) (bs 11 511) (o1 HT_) fun K hK=>?_;refine Kd.R_lit_step (Kd.int .i64) _ 30 ?hg (N:=25) ?hd (xs:=([t211,t212]:List Int)) (inner:=[.int .i64 t211,.int .i64 t212]) (ok:=fun _=>True) (okp:=fun _=>True) ?hr ?hp (fun _ hk=>hk) trivial (Below.refl _ _) (Nat.le_refl _) (by simp) ?_;(case hd=>rfl);(case hg=>rfl);(case hr=>first|(go_simp;done)|(go_simp;rfl));(case hp=>exact(Reps.one (ki t211) (Reps.one (ki t212) (Reps.none _ _))))
 intro v214 w13 ho14 hb hg_ hnew_;clear hg_ hnew_
 (first|rw[← Ny213.out]at ho14|(simp only[Int.reduceToNat]at ho14;rw[← Ny213.out]at ho14))
 have HO215:=m0 (Kd.R_lower ho14 (below_size bz));replace BK207:=bb BK207 hb;replace HB:=sb HB hb;clear hb ho14;obtain⟨Ao15,co15,eo15⟩:=Kd.R_slice HO215.out;subst eo15;refine hK.out _ _ cz (fun hH=>?_);clear hK K;refine nz 25 ?_;refine oneZ 9 (some 26) (bs 11 1023) (o1 HT_) fun K hK=>?_;refine gz Tryz.func40 #[.slice Ao15 y213.length co15] ?_
 with_reducible refine(L_first.calls k _ _ y213 t216 _ ?side1 ?side2 A9.out).mono ?_
 (case side1=>exact bc (Kd.R_reads' HO215.out).2.2)
 (case side2=>exact(Kd.R_reads' HO215.out).2.1)
 rintro e w' ⟨rfl,⟨nd,rfl⟩⟩;refine⟨_,rfl,?_⟩;refine hK.out _ _ cz (fun hH=>?_);clear hK K;refine nz 26 ?_;refine pZ 10 (some 2) (bs 11 2047) HT_ ?_;refine done_ (done_of HT_.out (by kernel_rfl)) ?_
 try go_wp2
 go_ret
 exact ez):P:=h
theorem L_CheckLayers_1.m2 {P:Prop} (h:P:=by
 (try(rw[drewN_self w19];generalize hq_:World.drewN w19 _=w19;replace BK207:=gd BK207 hq_;replace HB:=gs HB hq_;clear hq_))
 replace BK207:=bd BK207;replace HB:=sd HB;refine start_ (n:=11) (S:=fun w'=>w'.cell? ⟨gb207,0,none⟩=some (.int .i64 a0_0)∧w'.cell? ⟨gb207,1,none⟩=some (.int .i64 a0_1)∧w'.cell? ⟨gb207,2,none⟩=some (.int .i64 a0_2)) (ds:=[]) _ (by kernel_rfl) rfl rfl cz (fun hH=>?_);refine with_tabW L_CheckLayers_1.tab2 L_CheckLayers_1.bits2 (fun HT_ HW_=>?_);generalize w19.drew=w21 at BK207 HB hH ⊢;refine pZ 0 (some 17) (bs 11 1) HT_ ?_;refine pZ 2 (some 19) (bs 11 5) HT_ ?_;refine pZ 4 (some 21) (bs 11 21) HT_ ?_;refine takeZ 3 (some 20) (bs 11 29) (tw HT_ HW_) hH ?_;refine takeZ 5 (some 22) (bs 11 61) (tw HT_ HW_) hH ?_;refine pZ 6 (some 23) (bs 11 125) HT_ ?_;refine oneZ 1 (some 18) (bs 11 127) (o1 HT_) fun K hK=>?_;refine gz Tryz.func45 #[.bool false,.int .i64 2] ?_
 with_reducible refine(L_unless.calls false 2 t211 _ A16.out).mono ?_
 exact L_CheckLayers_1.m1):P:=h
theorem L_CheckLayers_1.calls (k:Nat) (a0_0:Int) (a0_1:Int) (a0_2:Int) (r:Int) (w:World) (H:L_CheckLayers_1.f k a0_0 a0_1 a0_2=some r):
  Calls Tryz.prog 64 #[.agg #[.int .i64 a0_0,.int .i64 a0_1,.int .i64 a0_2]] w fun e w'=>e= .returned (.int .i64 r)∧Below w.heap.size w w':=by
 have hu64:=Tryz.underlying64;have HB:=m0 (Below.refl w.heap.size w);unfold L_CheckLayers_1.f at H;replace H:=oa H;obtain⟨t208,A2,H⟩:=H;(try dsimp only at H)
 by_cases c3:t208=true
 ·subst c3;rw[if_pos rfl]at H;replace H:=oa H;obtain⟨t209,A4,H⟩:=H;(try dsimp only at H)
  by_cases c5:t209=true
  ·subst c5;rw[if_pos rfl]at H;replace H:=oa H;obtain⟨t210,A6,H⟩:=H;(try dsimp only at H);replace H:=oa H;obtain⟨t211,A7,H⟩:=H;(try dsimp only at H);replace H:=oa H;obtain⟨t212,A8,H⟩:=H;(try dsimp only at H);obtain⟨y213,hy213⟩:∃ y_:List Int,y_=(([t211,t212]:List Int)):=⟨_,rfl⟩;replace H:((L_first.f k y213).bind fun t216=>(some t216))=some r:=hq hy213 H
   have Ny213:=m0 hy213;clear hy213;replace H:=oa H;obtain⟨t216,A9,H⟩:=H;(try dsimp only at H);obtain rfl:=Option.some.inj H;go_enter Tryz.func64,Tryz.ntmps64
   try go_wp2_with (first|((with_reducible refine ga 1 rfl ?_);refine be 1 64 #[.int .i64 a0_0,.int .i64 a0_1,.int .i64 a0_2] ?_;intro gb207 hg w10 hbox hb;have BK207:=m0 hbox;have GE207:=gw w hg;replace HB:=sb HB hb;clear hb hbox hg;obtain⟨_,_,_,_,_,_⟩:=b3 BK207)|((with_reducible refine gc 65 rfl ?_);refine gl (some 6) Tryz.func65 #[.int .i64 a0_0] ?_;(with_reducible refine(L_isHeight.calls a0_0 true _ A2.out).mono ?_);rintro e w' ⟨rfl,⟨nd,rfl⟩⟩;refine⟨_,rfl,?_⟩)|(go_at_call 65;(with_reducible refine(L_isHeight.calls a0_1 true _ A4.out).mono ?_);rintro e w' ⟨rfl,⟨nd,rfl⟩⟩)|(go_at_call 46;(with_reducible refine(L_within.calls a0_2 0 8 t210 _ A6.out).mono ?_);rintro e w' ⟨rfl,⟨nd,rfl⟩⟩))
   (try(rw[drewN_self w10];generalize hq_:World.drewN w10 _=w10;replace BK207:=gd BK207 hq_;replace HB:=gs HB hq_;clear hq_))
   replace BK207:=bd BK207;replace HB:=sd HB;refine start_ (n:=11) (S:=fun w'=>w'.cell? ⟨gb207,0,none⟩=some (.int .i64 a0_0)∧w'.cell? ⟨gb207,1,none⟩=some (.int .i64 a0_1)∧w'.cell? ⟨gb207,2,none⟩=some (.int .i64 a0_2)) (ds:=[]) _ (by kernel_rfl) rfl rfl cz (fun hH=>?_);refine with_tabW L_CheckLayers_1.tab2 L_CheckLayers_1.bits2 (fun HT_ HW_=>?_);generalize w10.drew=w12 at BK207 HB hH ⊢;refine pZ 0 (some 17) (bs 11 1) HT_ ?_;refine pZ 2 (some 19) (bs 11 5) HT_ ?_;refine pZ 4 (some 21) (bs 11 21) HT_ ?_;refine takeZ 3 (some 20) (bs 11 29) (tw HT_ HW_) hH ?_;refine takeZ 5 (some 22) (bs 11 61) (tw HT_ HW_) hH ?_;refine pZ 6 (some 23) (bs 11 125) HT_ ?_;refine oneZ 1 (some 18) (bs 11 127) (o1 HT_) fun K hK=>?_;refine gz Tryz.func45 #[.bool t210,.int .i64 2] ?_
   with_reducible refine(L_unless.calls t210 2 t211 _ A7.out).mono ?_
   exact L_CheckLayers_1.m1
  ·replace c5:=Bool.eq_false_iff.mpr c5;subst c5;rw[if_neg (show ¬ (false=true) by decide)]at H;replace H:=oa H;obtain⟨t211,A16,H⟩:=H;(try dsimp only at H);replace H:=oa H;obtain⟨t212,A8,H⟩:=H;(try dsimp only at H);obtain⟨y213,hy219⟩:∃ y_:List Int,y_=(([t211,t212]:List Int)):=⟨_,rfl⟩;replace H:((L_first.f k y213).bind fun t216=>(some t216))=some r:=hq hy219 H
   have Ny213:=m0 hy219;clear hy219;replace H:=oa H;obtain⟨t216,A9,H⟩:=H;(try dsimp only at H);obtain rfl:=Option.some.inj H;go_enter Tryz.func64,Tryz.ntmps64
   try go_wp2_with (first|((with_reducible refine ga 1 rfl ?_);refine be 1 64 #[.int .i64 a0_0,.int .i64 a0_1,.int .i64 a0_2] ?_;intro gb207 hg w19 hbox hb;have BK207:=m0 hbox;have GE207:=gw w hg;replace HB:=sb HB hb;clear hb hbox hg;obtain⟨_,_,_,_,_,_⟩:=b3 BK207)|((with_reducible refine gc 65 rfl ?_);refine gl (some 6) Tryz.func65 #[.int .i64 a0_0] ?_;(with_reducible refine(L_isHeight.calls a0_0 true _ A2.out).mono ?_);rintro e w' ⟨rfl,⟨nd,rfl⟩⟩;refine⟨_,rfl,?_⟩)|(go_at_call 65;(with_reducible refine(L_isHeight.calls a0_1 false _ A4.out).mono ?_);rintro e w' ⟨rfl,⟨nd,rfl⟩⟩))
   exact L_CheckLayers_1.m2
 ·replace c3:=Bool.eq_false_iff.mpr c3;subst c3;rw[if_neg (show ¬ (false=true) by decide)]at H;replace H:=oa H;obtain⟨t211,A16,H⟩:=H;(try dsimp only at H);replace H:=oa H;obtain⟨t212,A8,H⟩:=H;(try dsimp only at H);obtain⟨y213,hy225⟩:∃ y_:List Int,y_=(([t211,t212]:List Int)):=⟨_,rfl⟩;replace H:((L_first.f k y213).bind fun t216=>(some t216))=some r:=hq hy225 H
  have Ny213:=m0 hy225;clear hy225;replace H:=oa H;obtain⟨t216,A9,H⟩:=H;(try dsimp only at H);obtain rfl:=Option.some.inj H;go_enter Tryz.func64,Tryz.ntmps64
  try go_wp2_with (first|((with_reducible refine ga 1 rfl ?_);refine be 1 64 #[.int .i64 a0_0,.int .i64 a0_1,.int .i64 a0_2] ?_;intro gb207 hg w19 hbox hb;have BK207:=m0 hbox;have GE207:=gw w hg;replace HB:=sb HB hb;clear hb hbox hg;obtain⟨_,_,_,_,_,_⟩:=b3 BK207)|((with_reducible refine gc 65 rfl ?_);refine gl (some 6) Tryz.func65 #[.int .i64 a0_0] ?_;(with_reducible refine(L_isHeight.calls a0_0 false _ A2.out).mono ?_);rintro e w' ⟨rfl,⟨nd,rfl⟩⟩;refine⟨_,rfl,?_⟩))
  exact L_CheckLayers_1.m2
end
section
def api_CloudLayer_CheckLayers_1.l0:Nat→List (S64)→Int→Int→Option (Int×Int)
 |0,_,_,_=>none
 |k+1,x9,x10,x11=>if x11<x10 then(if 0≤x11 then(if x11<(x9.length:Int)then((L_CheckLayers_1.f k ((rd_T64 x9 x11).f0) ((rd_T64 x9 x11).f1) ((rd_T64 x9 x11).f2)).bind fun t231=>(if t231=0 then(api_CloudLayer_CheckLayers_1.l0 k x9 x10 (wrap64 (x11+1)))else(some (x11,t231))))else(none))else(none))else(some (0,0))
def api_CloudLayer_CheckLayers_1.f (k:Nat) (l0:List (S64))  :Option (Int×Int):=api_CloudLayer_CheckLayers_1.l0 k l0 (l0.length:Int) 0
theorem api_CloudLayer_CheckLayers_1.mono_l:∀ k,(∀ y0 y1 y2,LeO (api_CloudLayer_CheckLayers_1.l0 k y0 y1 y2) (api_CloudLayer_CheckLayers_1.l0 (k+1) y0 y1 y2))
 |0=>fun _ _ _ r h=>by simp[api_CloudLayer_CheckLayers_1.l0]at h
 | k+1=>by
  have ih0:=api_CloudLayer_CheckLayers_1.mono_l k
  ·intro y0 y1 y2;unfold api_CloudLayer_CheckLayers_1.l0
   have m1:=@L_CheckLayers_1.mono;exact lz
theorem api_CloudLayer_CheckLayers_1.mono:∀ a0 k,LeO (api_CloudLayer_CheckLayers_1.f k a0) (api_CloudLayer_CheckLayers_1.f (k+1) a0):=by
 intro a0 k;have ih0:=api_CloudLayer_CheckLayers_1.mono_l k;unfold api_CloudLayer_CheckLayers_1.f
 have m1:=@L_CheckLayers_1.mono;exact lz
theorem api_CloudLayer_CheckLayers_1.calls (k:Nat) (A0:Option Addr) (c0:Nat) (l0:List (S64))  (r1:Int) (r2:Int) (w:World) (hr0:Kd.C k64 w A0 l0.length l0) (hc0:l0.length≤c0) (H:api_CloudLayer_CheckLayers_1.f k l0=some (r1,r2)):
  Calls Tryz.prog 63 #[.slice A0 l0.length c0,.func (.func 64) #[] #[]] w fun e w'=>e= .returned (.tuple #[.int .i64 r1,.int .i64 r2])∧Below w.heap.size w w':=by
 have hu64:=Tryz.underlying64;have HR0:=m0 hr0;have HC0:=m0 hc0;clear hr0 hc0;have HB:=m0 (Below.refl w.heap.size w);unfold api_CloudLayer_CheckLayers_1.f at H;have H':=m0 H;clear H;go_enter Tryz.func63,Tryz.ntmps63
 go_wp2
 go_loopg [11] k (fun kq v11 w'=>∃ (x11_1:Int),v11= .int .i64 x11_1∧Aside0 (api_CloudLayer_CheckLayers_1.l0 kq l0 (l0.length:Int) x11_1=some (r1,r2))∧Aside0 (kq≤k)∧Aside0 (Below w.heap.size w w'))
 case atStart=>exact⟨(0),rz,H',⟨Nat.le_refl _⟩,⟨bz⟩⟩
 case round=>
  clear H';obtain⟨x11_1,rfl,HA,HK1,HB⟩:=hrel
  cases gk with
  |zero=>exact absurd HA.out (by simp[api_CloudLayer_CheckLayers_1.l0])
  | succ k1=>
   have H:=HA.out;clear HA;simp only[api_CloudLayer_CheckLayers_1.l0]at H
   by_cases c3:x11_1<(l0.length:Int)
   ·rw [if_pos c3]at H;have c3b0:=decide_eq_true c3;clear c3
    by_cases c4:0≤x11_1
    ·rw [if_pos c4]at H;have c4b0:=decide_eq_true c4;clear c4
     by_cases c5:x11_1<(l0.length:Int)
     ·rw [if_pos c5]at H;have c5b0:=decide_eq_true c5;clear c5;replace H:=oa H;obtain⟨t231,A6,H⟩:=H;(try dsimp only at H);have p229:0≤(x11_1:Int):=od;have q229:x11_1<(l0.length:Int):=od;obtain⟨ad229,e229,hx229_0,hx229_1,hx229_2⟩:=at_T64 HR0.out x11_1 p229 q229
      cases e229
      replace hx229_0:=hc HB hx229_0;replace hx229_1:=hc HB hx229_1;replace hx229_2:=hc HB hx229_2;replace p229:=eq_true p229;replace q229:=eq_true q229
      by_cases c7:t231=0
      ·rw [if_pos c7]at H;have c7b0:=beq_iff_eq.mpr c7;have c7b1:=bne_eq_false_iff_eq.mpr c7;clear c7;have H':=m0 H;clear H
       go_wp2_with (first|((with_reducible refine ga 7 rfl ?_);refine be 7 64 #[.int .i64 0,.int .i64 0,.int .i64 0] ?_;intro gb230 hg w8 hbox hb;have BK230:=m0 hbox;have GE230:=gw w hg;replace HB:=sb HB hb;clear hb hbox hg;obtain⟨_,_,_,_,_,_⟩:=b3 BK230)|(go_at_call 64;(with_reducible refine(L_CheckLayers_1.calls k1 ((rd_T64 l0 x11_1).f0) ((rd_T64 l0 x11_1).f1) ((rd_T64 l0 x11_1).f2) t231 _ A6.out).mono ?_);rintro e w10 ⟨rfl,hb⟩;replace BK230:=m0 (blk_below (g:=gb230) (o:= .cells #[.int .i64 ((rd_T64 l0 x11_1).f0),.int .i64 ((rd_T64 l0 x11_1).f1),.int .i64 ((rd_T64 l0 x11_1).f2)] 64 (0,0)) (bq BK230.out) hb);replace HB:=sb HB hb;(try clear hb)))
       go_roundg k1
       case measure=>have:=HK1.out;omega
       case rel=>exact⟨(wrap64 (x11_1+1)),rz,H',⟨by have:=HK1.out;omega⟩,⟨bz⟩⟩
      ·rw [if_neg c7]at H;have c7b0:=beq_eq_false_iff_ne.mpr c7;have c7b1:=bne_iff_ne.mpr c7;simp only[Option.some.injEq,Prod.mk.injEq]at H;obtain⟨rfl,rfl⟩:=H
       go_wp2_with (first|((with_reducible refine ga 7 rfl ?_);refine be 7 64 #[.int .i64 0,.int .i64 0,.int .i64 0] ?_;intro gb230 hg w11 hbox hb;have BK230:=m0 hbox;have GE230:=gw w hg;replace HB:=sb HB hb;clear hb hbox hg;obtain⟨_,_,_,_,_,_⟩:=b3 BK230)|(go_at_call 64;(with_reducible refine(L_CheckLayers_1.calls k1 ((rd_T64 l0 x11_1).f0) ((rd_T64 l0 x11_1).f1) ((rd_T64 l0 x11_1).f2) t231 _ A6.out).mono ?_);rintro e w13 ⟨rfl,hb⟩;replace BK230:=m0 (blk_below (g:=gb230) (o:= .cells #[.int .i64 ((rd_T64 l0 x11_1).f0),.int .i64 ((rd_T64 l0 x11_1).f1),.int .i64 ((rd_T64 l0 x11_1).f2)] 64 (0,0)) (bq BK230.out) hb);replace HB:=sb HB hb;(try clear hb)))
       go_ret2
       exact ez
     ·rw [if_neg c5]at H;exact absurd H (by simp)
    ·rw [if_neg c4]at H;exact absurd H (by simp)
   ·rw [if_neg c3]at H;have c3b0:=decide_eq_false c3;clear c3;simp only[Option.some.injEq,Prod.mk.injEq]at H;obtain⟨rfl,rfl⟩:=H
    go_wp2
    go_ret2
    exact ez
end
section
def L_CheckLayers.f (k:Nat) (l0:List (S64)):Option (Int×Int):=if(l0.length:Int)>10 then(some (0,8))else((api_CloudLayer_CheckLayers_1.f k l0).bind fun bt232=>(some (bt232.1,bt232.2)))
theorem L_CheckLayers.mono:∀ a0 k,LeO (L_CheckLayers.f k a0) (L_CheckLayers.f (k+1) a0):=by
 intro a0 k;unfold L_CheckLayers.f
 have m1:=@api_CloudLayer_CheckLayers_1.mono;exact lz
theorem L_CheckLayers.calls (k:Nat) (A0:Option Addr) (c0:Nat) (l0:List (S64)) (r1:Int) (r2:Int) (w:World) (hr0:Kd.C k64 w A0 l0.length l0) (hc0:l0.length≤c0) (H:L_CheckLayers.f k l0=some (r1,r2)):
  Calls Tryz.prog 33 #[.slice A0 l0.length c0] w fun e w'=>e= .returned (.tuple #[.int .i64 r1,.int .i64 r2])∧Below w.heap.size w w':=by
 have HR0:=m0 hr0;have HC0:=m0 hc0;clear hr0 hc0;have HB:=m0 (Below.refl w.heap.size w);unfold L_CheckLayers.f at H
 by_cases c2:(l0.length:Int)>10
 ·rw [if_pos c2]at H;have c2b0:=decide_eq_true c2;have c2b1:decide (10<l0.length)=true:=decide_eq_true (by omega);clear c2;simp only[Option.some.injEq,Prod.mk.injEq]at H;obtain⟨rfl,rfl⟩:=H;go_enter Tryz.func33,Tryz.ntmps33
  go_wp2
  go_ret2
  exact ez
 ·rw [if_neg c2]at H;have c2b0:=decide_eq_false c2;have c2b1:decide (10<l0.length)=false:=decide_eq_false (by omega);clear c2;replace H:=oa H;obtain⟨⟨t232,t233⟩,A3,H⟩:=H;(try dsimp only at H);simp only[Option.some.injEq,Prod.mk.injEq]at H;obtain⟨rfl,rfl⟩:=H;go_enter Tryz.func33,Tryz.ntmps33
  go_wp2_with (first|((with_reducible refine gc 63 rfl ?_);refine gl (some 8) Tryz.func63 #[.slice A0 l0.length c0,.func (.func 64) #[] #[]] ?_;(with_reducible refine(api_CloudLayer_CheckLayers_1.calls k _ _ l0  t232 t233 _ ?side1 ?side2 A3.out).mono ?_);(case side1=>exact cd HR0.out);(case side2=>exact HC0.out);rintro e w4 ⟨rfl,hb⟩;refine⟨_,rfl,?_⟩;replace HB:=sb HB hb;(try clear hb)))
  go_ret2
  exact ez
end
section
theorem api_CloudLayer_48.calls_own (A:Option Addr) (n c:Nat) (w:World):
  Calls Tryz.prog 48 #[.slice A n c] w fun e w'=>∃ gb,gb=w.heap.size∧e= .returned (.func (.func 76) #[] #[.pointer (some ⟨gb,0,none⟩)])∧w'.heap[gb]?=some (.cells #[.slice A n c] 23 (0,0))∧Below w.heap.size w w':=by
 go_enter Tryz.func48,Tryz.ntmps48
 go_wp2
 go_ret
 exact⟨_,rfl,rfl,blk_new _ _,below_alloc (Below.refl _ _) _⟩
attribute [local go_sem] Oper.semAt_some
theorem api_CloudLayer_48.take_snoc (l:List S64) (x:Int) (h0:0≤x) (h1:x<(l.length:Int)):l.take (x+1).toNat=l.take x.toNat++ [rd_T64 l x]:=by
 have e:(x+1).toNat=x.toNat+1:=by omega
 have h:x.toNat<l.length:=by omega
 rw[e,List.take_succ_eq_append_getElem h]
 congr 1
 simp[rd_T64,List.getD_eq_getElem?_getD,List.getElem?_eq_getElem h]
theorem api_CloudLayer_48.stops (n:Nat) (hn:1≤n) (A:Option Addr) (c:Nat) (l:List S64) (B:Nat) (w:World) (hbx:w.heap[B]?=some (.cells #[.slice A l.length c] 23 (0,0))) (hr:Kd.C k64 w A l.length l):
  SeqStopsK Fence.wide n Tryz.prog 76 #[.pointer (some ⟨B,0,none⟩)] (fun x_:S64=>(#[(.agg #[.int .i64 (x_).f0,.int .i64 (x_).f1,.int .i64 (x_).f2])]:Array Value)) (Below w.heap.size) (fun ys=>ys=l) (fun _=>True) l.length w:=by
 intro l_ J Jx W hW hJ hJx hY h0;have hcx:W.cell? ⟨B,0,none⟩=some (.slice A l.length c):=(blk_cell (blk_below hbx hW) 0).trans rfl;have HL:=m0 (show(l.length:Int)≤9223372036854775807 by have:=hr.2.1;omega);have HY:=m0 hY;have HR:=m0 hr;have H0:=m0 h0;have HW:=m0 hW;have HJA:=m0 hJ;clear hr hbx hY h0 hJ hJx hW;refine callsIn_of_wp Tryz.func76 rfl trivial ?_ rfl;simp only[Tryz.ntmps76,List.size_toArray,List.length_cons,List.length_nil,Nat.reduceAdd,Nat.reduceSub,Array.replicate_succ,Array.replicate_zero,List.push_toArray,List.append_toArray,List.nil_append,List.cons_append]
 gi_wp2
 gi_loopw [7] (fun i wr=>∃ x:Int,i= .int .i64 x∧Aside0 (0≤x∧x≤l.length)∧Aside0 (J (l.take x.toNat) wr)∧Aside0 (Below w.heap.size W wr)) (fun i _=>l.length-(intOf i).toNat)
 case atStart=>exact⟨0,rfl,⟨by omega,by omega⟩,⟨H0.out⟩,⟨Below.refl _ _⟩⟩
 case round=>
  obtain⟨x,rfl,HX,HJ,HB⟩:=hrel;clear hcx
  by_cases hlt:x<(l.length:Int)
  ·obtain ⟨ad,e,hx0,hx1,hx2⟩:=at_T64 HR.out x HX.out.1 hlt
   cases e
   replace hx0:=itb_ HW.out HB.out hx0;replace hx1:=itb_ HW.out HB.out hx1;replace hx2:=itb_ HW.out HB.out hx2;have HLT:=m0 hlt;have c1:decide (x<(l.length:Int))=true:=decide_eq_true hlt;have p1:=eq_true HX.out.1;have q1:=eq_true hlt;clear hlt;obtain⟨fn,tmps,assign,body,hy,hR⟩:=HY.out (l.take x.toNat) (rd_T64 l x) (wr.alloc (.cells #[.int .i64 (rd_T64 l x).f0,.int .i64 (rd_T64 l x).f1,.int .i64 (rd_T64 l x).f2] 64)) (abides_new_ HJA.out HJ.out) (by rw[List.length_take];have:=HLT.out;have:=HX.out;omega);have HRR:=m0 hR;clear hR
   gi_wp2
   refine HRR.out.mono ?_;rintro e W3 (⟨rfl,hJ3,hk3⟩|⟨rfl,hJx3⟩)
   ·have HJ3:=m0 hJ3;have HK3:=m0 (show Below w.heap.size W W3 from(itn_ HB.out (Nat.le_trans HW.out.size HB.out.size)).trans hk3);clear hJ3 hk3 hy
    gi_wp2
    go_roundw
    case rel=>
     have h0:=HX.out.1;have h1:=HLT.out;have hL:=HL.out;have e1:wrap64 (x+1)=x+1:=by unfold wrap64;omega
     refine⟨wrap64 (x+1),rfl,?_,?_,HK3⟩
     ·rw [e1];exact⟨⟨by omega,by omega⟩⟩
     ·rw [e1,api_CloudLayer_48.take_snoc l x h0 h1];exact HJ3
    case measure=>
     have h0:=HX.out.1;have h1:=HLT.out;have hL:=HL.out;have e1:wrap64 (x+1)=x+1:=by unfold wrap64;omega
     simp only[intOf];rw[e1];omega
   ·have HJX:=m0 hJx3;clear hJx3 hy
    gi_wp2
    refine bodyPost_ret (results_none rfl _ _ _) rfl ?_;exact⟨⟨_,rfl⟩,.inr ⟨_,trivial,HJX.out⟩⟩
  ·have HN:=m0 hlt;have c1:decide (x<(l.length:Int))=false:=decide_eq_false hlt;clear hlt
   gi_wp2
   go_end0
   have hj:=HJ.out;rw[List.take_of_length_le (by have:=HN.out;omega)]at hj
   first
    |exact⟨⟨_,rfl⟩,.inl ⟨_,rfl,hj⟩⟩
    |exact⟨⟨_,rfl⟩,.inl hj⟩
end
section
attribute [local go_sem] Oper.semAt_some
def api_CloudLayer_98.I (w:World) (pre:List S64) (W:World):Prop:=∃ (v:Value) (cs:List Value),W.heap[w.heap.size]?=some (.cells #[v] 23 (0,0))∧W.ownsRow w.heap.size 64 3 v pre.length cs∧(∀ (U:World) (ok:Nat→Prop),Reps ((k64).M U w.heap.size ok) 3 pre cs)
theorem api_CloudLayer_98.calls_own (gf:Nat) (lb:Array Value) (eg:∀ args w,(callFunc gf args).run Tryz.prog w= .ok (.enter gf args) w) (l:List S64) (n₀:Nat) (w:World) (hn:n₀≤w.heap.size) (hN:l.length*24≤140737488355328)
    (hseq:SeqStopsK Fence.wide 8 Tryz.prog gf lb (fun x_:S64=>(#[(.agg #[.int .i64 (x_).f0,.int .i64 (x_).f1,.int .i64 (x_).f2])]:Array Value)) (Below n₀) (fun ys=>ys=l) (fun _=>True) l.length w):
    Calls Tryz.prog 98 #[.slice none 0 0,.func (.func gf) #[] lb] w fun e w'=>∃ v,e= .returned v∧Kd.R k64 64 w' w.heap.size (fun _=>True) v l∧Below w.heap.size w w':=by
  refine(callsIn_wide (n:=9)).1 (callsIn_of_wp_marks Tryz.func98 rfl trivial ?_ rfl);simp only[Tryz.ntmps98,List.size_toArray,List.length_cons,List.length_nil,Nat.reduceAdd,Nat.reduceSub,Array.replicate_succ,Array.replicate_zero,List.push_toArray,List.append_toArray,List.nil_append,List.cons_append];have HS:=m0 hseq;have HN:=m0 hN;clear hseq hN
  gi_wp2
  obtain⟨W0,hW0⟩:∃ W0,w.alloc (.cells #[.slice none 0 0] 23)=W0:=⟨_,rfl⟩;have hz:W0.heap.size=w.heap.size+1:=by rw[← hW0];simp
  have hb0:Below w.heap.size w W0:=by rw[← hW0];exact below_alloc (Below.refl _ _) _
  have hk0:W0.heap[w.heap.size]?=some (.cells #[.slice none 0 0] 23 (0,0)):=by rw[← hW0];exact blk_new _ _
  rw [hW0];clear hW0;have HZ:=m0 hz;have HB0:=m0 hb0;obtain⟨i0,hi,hz0,hz1,hz2⟩:=info_parts info64;refine wpIn_rangeFunc_ownH (n:=9) rfl (by decide) (gf:=gf) (lb:=lb) rfl trivial eg HS.out (fun h k=>belowK_t h k) (fun W l o o' hl h hc hw=>belowK_b (w:=W0) (by omega) W l o o' hl h hc hw) hb0 (fun _=>rfl)
    (fun pre W=>api_CloudLayer_98.I w pre W∧Below w.heap.size w W) (fun _ _ _=>False)
    (OwnFrom.and (fun s A B row hs hg hr=>by
      obtain⟨v,cs,h1,h2,h3⟩:=hs;exact⟨v,cs,blk_own_ h1 hg hr,row_turned_ h2 hg (fun r e=>(hr r e).2),h3⟩) (ownFrom_below (Nat.le_refl _) (by omega)))
    (fun _ _ _ _ _ hs _ _=>hs) ⟨⟨_,[],hk0,⟨rfl,.inl ⟨rfl,rfl⟩⟩,fun _ _=>Reps.none _ _⟩,hb0⟩
    (fun x a' W=>∃ gx:Nat,a'=({tmps:= #[.slice none 0 0,.func (.func gf) #[] lb,.pointer (some ⟨w.heap.size,0,none⟩),undef,.slice none 0 0,.pointer (some ⟨gx,0,none⟩),.func (.func gf) #[] lb,(.agg #[.int .i64 (x).f0,.int .i64 (x).f1,.int .i64 (x).f2]),undef,undef,undef,undef,undef],defers:=[] }:Act)∧W.heap[gx]?=some (.cells #[.int .i64 x.f0,.int .i64 x.f1,.int .i64 x.f2] 64 (0,0))) (fun x a'=>fun _ A B row hs hg hr=>by obtain⟨gx,h1,h2⟩:=hs;exact⟨gx,h1,blk_own_ h2 hg hr⟩) ?assign ?body ?done ?stop
  case stop=>
    rintro D c pre W _ _ h _;exact h.elim
  case assign=>
    rintro l_ pre x W K ⟨⟨v,cs,h1,h2,h3⟩,hB⟩ hK;have HKK:=m0 hK;have HI:=m0 (show api_CloudLayer_98.I w pre W∧Below w.heap.size w W from⟨⟨v,cs,h1,h2,h3⟩,hB⟩);clear hK h1 h2 h3 hB
    gi_wp2
    obtain⟨⟨v,cs,h1,h2,h3⟩,hB⟩:=HI.out;exact HKK.out _ _ ((KeepsOthers.alloc _ _).from _) ((Below.refl _ _).alloc (Nat.le_trans hn hB.size) _) ⟨⟨v,cs,blk_alloc h1 _,h2.alloc _,h3⟩,hB.alloc hB.size _⟩ ⟨_,rfl,blk_new _ _⟩
  case body=>
    rintro l_ pre x a' W hl hrec ⟨⟨v,cs,h1,h2,h3⟩,hB⟩ ⟨gx,rfl,hx⟩ hlen;have hcv:W.cell? ⟨w.heap.size,0,none⟩=some v:=(blk_cell h1 0).trans rfl;have hfv:=blk_frozen h1 0;have hlr:cs.length=pre.length*3:=h2.1;have hnl:=HN.out;have hsz:=hB.size;have H1:=m0 h1;have H3:=m0 h3;have HBB:=m0 hB;have HLEN:=m0 hlen;clear h1 h3 hB hl hrec hlen hnl hlr;have hx0:W.cell? ⟨gx,0,none⟩=some (.int .i64 x.f0):=(blk_cell hx 0).trans rfl;have hx1:W.cell? ⟨gx,1,none⟩=some (.int .i64 x.f1):=(blk_cell hx 1).trans rfl;have hx2:W.cell? ⟨gx,2,none⟩=some (.int .i64 x.f2):=(blk_cell hx 2).trans rfl;clear hx
    gi_wp2_with (first
      | (gi_at_builtin;refine wpListIn_append_own _ rfl _ _ 23 rfl w.heap.size 64 i0 (.agg #[(.int .i64 0),(.int .i64 0),(.int .i64 0)]) 3 24 Tryz.underlying23 hi hz0 hz1 hz2 rfl (by decide) v pre.length cs rfl (h2.alloc _) ⟨W.heap.size,0,none⟩ 1 1 [.int .i64 (x).f0,.int .i64 (x).f1,.int .i64 (x).f2] rfl rfl (cells_new_ W _ 64) (by simp[Value.oneCell']) (by have:=HLEN.out;have:=HN.out;unfold maxLen;omega) (by have:=HLEN.out;have:=HN.out;omega) (by simp;omega) ?_;intro v' w3 hown' hg3 hnil3
         have hv3:w3.heap[w.heap.size]?=some (.cells #[v] 23 (0,0)):=(hg3.block _ (by simp;have:=blk_lt H1.out;omega) (row_ne_ h2 H1.out (by decide))).trans (blk_alloc H1.out _);have hcv3:w3.cell? ⟨w.heap.size,0,none⟩=some v:=(blk_cell hv3 0).trans rfl;have hfv3:=blk_frozen hv3 0;obtain⟨g',cap',cur',rfl,hbase',hgb',hr1,hr2,hr3,hr4⟩:∃ g' cap' cur',v'= .slice (some ⟨g',0,none⟩) (pre.length+1) cap'∧w.heap.size≤g'∧w3.heap[g']?=some (.cells cur' 64 (0,0))∧pre.length+1≤cap'∧cap'≤maxLen∧cur'.size=cap'*3∧cur'.toList.take ((pre.length+1)*3)=cs++ [.int .i64 (x).f0,.int .i64 (x).f1,.int .i64 (x).f2]:=by
           rcases hown'.2 with ⟨_,h0⟩|h'
           · exact absurd h0 (by omega)
           · exact h'
         have HV3:=m0 hv3;have HOWN:=m0 hown';have HG3:=m0 hg3;clear hv3 hown' hg3 hnil3 hbase' hgb' hr1 hr2 hr3 hr4))
    have hgA:W.grownBy (W.alloc (.cells ([.int .i64 (x).f0,.int .i64 (x).f1,.int .i64 (x).f2]:List Value).toArray 64)) none:=World.grownBy_alloc W _ none;have hbA:Below w.heap.size W (W.alloc (.cells ([.int .i64 (x).f0,.int .i64 (x).f1,.int .i64 (x).f2]:List Value).toArray 64)):=(Below.refl _ _).alloc hsz _;have hb3:Below w.heap.size W w3:=hbA.grown HG3.out (by simp;omega) (fun k e=>row_base_ h2 k e);have hb4:=hb3.setCell (p:=⟨w.heap.size,0,none⟩) (Nat.le_refl _) (.slice (some ⟨g',0,none⟩) (pre.length+1) cap');refine⟨((((KeepsOthers.alloc W (.cells ([.int .i64 (x).f0,.int .i64 (x).f1,.int .i64 (x).f2]:List Value).toArray 64)).trans (KeepsOthers.of_grownBy HG3.out (row_cells_ (h2.alloc _)))).trans (KeepsOthers.setCell _ _ _)).from _),hb4.mono hn,⟨.slice (some ⟨g',0,none⟩) (pre.length+1) cap',cs++ [.int .i64 (x).f0,.int .i64 (x).f1,.int .i64 (x).f2],?_,?_,?_⟩,HBB.out.trans hb4⟩
    · exact blk_put HV3.out 0 _ rfl
    · have:=row_far_ (.slice (some ⟨g',0,none⟩) (pre.length+1) cap') HOWN.out HV3.out (by decide)
      simpa using this
    · intro U ok;exact Reps.snoc (H3.out U ok) (k64_mkM _ _ _ _) rfl
  case done=>
    rintro D ys W hD rfl ⟨⟨v,cs,h1,h2,h3⟩,hB⟩ hK;have hcv:W.cell? ⟨w.heap.size,0,none⟩=some v:=(blk_cell h1 0).trans rfl;have hfv:=blk_frozen h1 0;have H1:=m0 h1;have H2:=m0 h2;have H3:=m0 h3;have HBB:=m0 hB;clear h1 h2 h3 hB
    gi_wp2
    refine⟨by simp,.inl ⟨_,_,rfl,run_takeDeferred hK,?_⟩⟩;have hgD:=grownBy_putObj' W D (.deferred none);refine⟨_,results_tmp rfl _ _ _,v,rfl,⟨fun _ _=>trivial,cs,row_turned_ H2.out hgD (fun r e=>by cases e;exact⟨_,hK,rfl⟩),H3.out _ _⟩,HBB.out.grown hgD HBB.out.size (fun k e=>by cases e;omega)⟩
end
section
theorem api_CloudLayer_74.calls_own (gf:Nat) (lb:Array Value) (eg:∀ args w,(callFunc gf args).run Tryz.prog w= .ok (.enter gf args) w) (l:List S64) (n₀:Nat) (w:World) (hn:n₀≤w.heap.size) (hN:l.length*24≤140737488355328)
  (hseq:SeqStopsK Fence.wide 8 Tryz.prog gf lb (fun x_:S64=>(#[(.agg #[.int .i64 (x_).f0,.int .i64 (x_).f1,.int .i64 (x_).f2])]:Array Value)) (Below n₀) (fun ys=>ys=l) (fun _=>True) l.length w):
  Calls Tryz.prog 74 #[.func (.func gf) #[] lb] w fun e w'=>∃ v,e= .returned v∧Kd.R k64 64 w' w.heap.size (fun _=>True) v l∧Below w.heap.size w w':=by
 have HC:=m0 (api_CloudLayer_98.calls_own gf lb eg l n₀ w hn hN hseq);clear hseq hn hN eg;go_enter Tryz.func74,Tryz.ntmps74
 go_wp2_with (first|(go_at_call 98;refine HC.out.mono ?_;rintro e w1 ⟨v,rfl,ho,hb⟩;have HO:=m0 ho;have HB:=m0 hb;clear ho hb))
 go_ret
 exact⟨v,rfl,HO.out,HB.out⟩
end
section
def L_CeilingOf_1.f (a0_0:Int) (a0_1:Int) (a0_2:Int) (a1_0:Int) (a1_1:Int) (a1_2:Int):Option (Int):=(cmp_Compare_int.f a0_0 a1_0).bind fun t236=>(some t236)
theorem L_CeilingOf_1.calls (a0_0:Int) (a0_1:Int) (a0_2:Int) (a1_0:Int) (a1_1:Int) (a1_2:Int) (r:Int) (w:World) (H:L_CeilingOf_1.f a0_0 a0_1 a0_2 a1_0 a1_1 a1_2=some r):
  Calls Tryz.prog 49 #[.agg #[.int .i64 a0_0,.int .i64 a0_1,.int .i64 a0_2],.agg #[.int .i64 a1_0,.int .i64 a1_1,.int .i64 a1_2]] w fun e w'=>e= .returned (.int .i64 r)∧Below w.heap.size w w':=by
 have hu64:=Tryz.underlying64;have HB:=m0 (Below.refl w.heap.size w);unfold L_CeilingOf_1.f at H;replace H:=oa H;obtain⟨t236,A3,H⟩:=H;(try dsimp only at H);obtain rfl:=Option.some.inj H;go_enter Tryz.func49,Tryz.ntmps49
 go_wp2_with (first|((with_reducible refine ga 2 rfl ?_);refine be 2 64 #[.int .i64 a0_0,.int .i64 a0_1,.int .i64 a0_2] ?_;intro gb234 hg w4 hbox hb;have BK234:=m0 hbox;have GE234:=gw w hg;replace HB:=sb HB hb;clear hb hbox hg)|((with_reducible refine ga 3 rfl ?_);refine be 3 64 #[.int .i64 a1_0,.int .i64 a1_1,.int .i64 a1_2] ?_;intro gb235 hg w5 hbox hb;have BK235:=m0 hbox;have GE235:=gw w hg;replace HB:=sb HB hb;have NB234_235:=nl BK234 hg;have NB235_234:=ng (nl BK234 hg);replace BK234:=bb BK234 hb;clear hb hbox hg;have hnb6:=NB234_235.out;have hnc6:=NB235_234.out;obtain⟨_,_,_,_,_,_⟩:=b3 BK234;obtain⟨_,_,_,_,_,_⟩:=b3 BK235)|((with_reducible refine gc 50 rfl ?_);refine gl (some 9) Tryz.func50 #[.int .i64 a0_0,.int .i64 a1_0] ?_;(with_reducible refine(cmp_Compare_int.calls a0_0 a1_0 t236 _ A3.out).mono ?_);rintro e w' ⟨rfl,⟨nd,rfl⟩⟩;refine⟨_,rfl,?_⟩))
 go_ret
 exact ez
end
end Go.Proofs.YteiafijbgjgiaaaGreatDoor.A
