/- Walks of the program's functions (printed, made shorter), each with what it computes. -/
import Derived.Test.YteiafijbgjgiaaaGreatP08
namespace Go.Proofs.YteiafijbgjgiaaaGreat.A
set_option maxHeartbeats 8000000
set_option maxRecDepth 100000
open Go.RowKit Go.Proofs.YteiafijbgjgiaaaGreatW.PrintWords Go.Proofs.YteiafijbgjgiaaaGreatW.PrintLast Go.Proofs.YteiafijbgjgiaaaGreatW.PrintMore
attribute [local go_sem] max2_int min2_int max_two min_two max_three min_three max_four min_four
set_option linter.unusedVariables false
set_option linter.unusedSimpArgs false
section
def Lw_both.f (a0:Int) (a1:Int):Option (Int):=if a0=0 then(some a1)else(some a0)
theorem Lw_both.calls (a0:Int) (a1:Int) (r:Int) (w:World) (H:Lw_both.f a0 a1=some r):
  Calls Tryz.prog 19 #[.int .i64 a0,.int .i64 a1] w fun e w'=>e= .returned (.int .i64 r)∧Drawn0 w w':=by
 unfold Lw_both.f at H
 by_cases c3:a0=0
 ·rw [if_pos c3]at H;have c3b0:=beq_iff_eq.mpr c3;have c3b1:=bne_eq_false_iff_eq.mpr c3;clear c3;obtain rfl:=Option.some.inj H;go_enter Tryz.func19,Tryz.ntmps19
  go_wp2
  go_ret
  exact⟨rz,dz⟩
 ·rw [if_neg c3]at H;have c3b0:=beq_eq_false_iff_ne.mpr c3;have c3b1:=bne_iff_ne.mpr c3;obtain rfl:=Option.some.inj H;go_enter Tryz.func19,Tryz.ntmps19
  go_wp2
  go_ret
  exact⟨rz,dz⟩
end
section
def L_UndoneIn.l0:Nat→List (S24)→List (S74)→List (S24)→Int→Int→Option ((List (S74))×Int)
  |0,_,_,_,_,_=>none
  |k+1,x8,x10,x56,x57,x58=>if x58<x57 then(if 0≤x58 then(if x58<(x56.length:Int)then(if x58<(x8.length:Int)then(if x10.length<4398046511104 then(L_UndoneIn.l0 k x8 (x10++ [(⟨(⟨(rd_T24 x56 x58).f0,(rd_T24 x56 x58).f1⟩:S24),(⟨(rd_T24 x8 x58).f0,(rd_T24 x8 x58).f1⟩:S24)⟩:S74)]) x56 x57 (wrap64 (x58+1)))else(none))else(none))else(none))else(none))else(some (x10,0))
def L_UndoneIn.f (k:Nat) (l0:List Int) (a1_0:Int) (a1_1:Int):Option ((List (S74))×Int):=(L_open.f k l0).bind fun bt639=>((L_constantErr.f a1_0).bind fun t643=>((L_constantErr.f a1_1).bind fun t644=>((L_unless.f (decide (a1_0≤a1_1)) 9).bind fun t645=>((L_first.f k (([bt639.2,t643,t644,t645]:List Int))).bind fun t649=>(if t649=0 then((L_profile_shares.f k bt639.1 a1_0).bind fun bt650=>(if bt650.2=0 then((L_profile_shares.f k bt639.1 a1_1).bind fun bt654=>(if bt654.2=0 then(L_UndoneIn.l0 k bt650.1 ([]:List (S74)) bt654.1 (bt654.1.length:Int) 0)else(some (([]:List (S74)),bt654.2))))else(some (([]:List (S74)),bt650.2))))else(some (([]:List (S74)),t649)))))))
theorem L_UndoneIn.mono_l:∀ k,(∀ y0 y1 y2 y3 y4,LeO (L_UndoneIn.l0 k y0 y1 y2 y3 y4) (L_UndoneIn.l0 (k+1) y0 y1 y2 y3 y4))
  |0=>fun _ _ _ _ _ r h=>by simp[L_UndoneIn.l0]at h
  | k +1=>by
    have ih0:=L_UndoneIn.mono_l k
    · intro y0 y1 y2 y3 y4;unfold L_UndoneIn.l0
      have m1:=@L_first.mono;have m2:=@L_open.mono;have m3:=@L_profile_shares.mono;exact lz
theorem L_UndoneIn.mono:∀ a0 a1 a2 k,LeO (L_UndoneIn.f k a0 a1 a2) (L_UndoneIn.f (k+1) a0 a1 a2):=by
  intro a0 a1 a2 k;have ih0:=L_UndoneIn.mono_l k;unfold L_UndoneIn.f
  have m1:=@L_first.mono;have m2:=@L_open.mono;have m3:=@L_profile_shares.mono;exact lz
def L_UndoneIn.T2:Bool×List (List Nat×List Nat):=(true,[([],[]),([],[]),([1],[1]),([2],[2]),([],[]),([4],[4]),([5,3],[5]),([],[]),([7],[7]),([],[]),([9],[9]),([8,10],[8,10]),([11,6],[11]),([0,3,6,12],[0,3,6,12]),([13,12],[13]),([14,14,0,1,2,3,4,5,6,7,8,9,10,11,12,13,14],[0,14])])
def L_UndoneIn.B2:List Nat:=[0,0,2,6,0,16,62,0,128,0,512,1920,4094,8191,16383,32767]
theorem L_UndoneIn.tab2:rtab .any (opsOf Tryz.f25 2)=L_UndoneIn.T2:=by kernel_rfl
theorem L_UndoneIn.bits2:waitsOk L_UndoneIn.T2.2 L_UndoneIn.B2=true:=by kernel_rfl
def L_UndoneIn.T15:Bool×List (List Nat×List Nat):=(true,[([],[]),([],[]),([],[]),([],[]),([2,3],[2,3]),([4],[4]),([1,5],[1,5]),([6],[6]),([0,7],[0,7]),([8,8,0,1,2,3,4,5,6,7,8],[0,8])])
def L_UndoneIn.B15:List Nat:=[0,0,0,0,12,28,62,126,255,511]
theorem L_UndoneIn.tab15:rtab .any (opsOf Tryz.f25 15)=L_UndoneIn.T15:=by kernel_rfl
theorem L_UndoneIn.bits15:waitsOk L_UndoneIn.T15.2 L_UndoneIn.B15=true:=by kernel_rfl
theorem L_UndoneIn.calls (k:Nat) (A0:Option Addr) (c0:Nat) (l0:List Int) (a1_0:Int) (a1_1:Int) (r1:List (S74)) (r2:Int) (w:World) (hr0:Kd.C (Kd.int .i64) w A0 l0.length l0) (hc0:l0.length≤c0) (H:L_UndoneIn.f k l0 a1_0 a1_1=some (r1,r2)):
    Calls Tryz.prog 25 #[.slice A0 l0.length c0,.agg #[.int .i64 a1_0,.int .i64 a1_1]] w fun e w'=>∃ v0_:Value,e= .returned (.tuple #[v0_,.int .i64 r2])∧Kd.R k74 74 w' w.heap.size (fun _=>True) v0_ r1∧Below w.heap.size w w':=by
  have hu40:=Tryz.underlying40;have hu24:=Tryz.underlying24;have hu74:=Tryz.underlying74;have HR0:=m0 hr0;have HC0:=m0 hc0;clear hr0 hc0;have HB:=m0 (Below.refl w.heap.size w);unfold L_UndoneIn.f at H;replace H:=oa H;obtain⟨⟨t639,t642⟩,A3,H⟩:=H;(try dsimp only at H);replace H:=oa H;obtain⟨t643,A4,H⟩:=H;(try dsimp only at H);replace H:=oa H;obtain⟨t644,A5,H⟩:=H;(try dsimp only at H);replace H:=oa H;obtain⟨t645,A6,H⟩:=H;(try dsimp only at H);obtain⟨y646,hy646⟩:∃ y_:List Int,y_=(([t642,t643,t644,t645]:List Int)):=⟨_,rfl⟩;replace H:((L_first.f k y646).bind fun t649=>(if t649=0 then((L_profile_shares.f k t639 a1_0).bind fun bt650=>(if bt650.2=0 then((L_profile_shares.f k t639 a1_1).bind fun bt654=>(if bt654.2=0 then(L_UndoneIn.l0 k bt650.1 ([]:List (S74)) bt654.1 (bt654.1.length:Int) 0)else(some (([]:List (S74)),bt654.2))))else(some (([]:List (S74)),bt650.2))))else(some (([]:List (S74)),t649))))=some (r1,r2):=hq hy646 H
  have Ny646:=m0 hy646;clear hy646;replace H:=oa H;obtain⟨t649,A7,H⟩:=H;(try dsimp only at H)
  by_cases c8:t649=0
  · rw [if_pos c8] at H;have c8b0:=beq_iff_eq.mpr c8;have c8b1:=bne_eq_false_iff_eq.mpr c8;clear c8;replace H:=oa H;obtain⟨⟨t650,t651⟩,A9,H⟩:=H;(try dsimp only at H)
    by_cases c10:t651=0
    · rw [if_pos c10] at H;have c10b0:=beq_iff_eq.mpr c10;have c10b1:=bne_eq_false_iff_eq.mpr c10;clear c10;replace H:=oa H;obtain⟨⟨t654,t655⟩,A11,H⟩:=H;(try dsimp only at H)
      by_cases c12:t655=0
      · rw [if_pos c12] at H;have c12b0:=beq_iff_eq.mpr c12;have c12b1:=bne_eq_false_iff_eq.mpr c12;clear c12;have H':=m0 H;clear H;go_enter Tryz.func25,Tryz.ntmps25
        try go_wp2_with (first|((with_reducible refine ga 3 rfl ?_);refine be 3 40 #[.int .i64 a1_0,.int .i64 a1_1] ?_;intro gb638 hg w13 hbox hb;have BK638:=m0 hbox;have GW638:=gw w hg;have GE638:=gw w hg;replace HB:=sb HB hb;clear hb hbox hg)|((with_reducible refine gc 45 rfl ?_);refine gl (some 15) Tryz.func45 #[.slice A0 l0.length c0] ?_;(with_reducible refine(L_open.calls k (fun k_=>k_<w.heap.size) _ _ l0 t639 t642 _ ?side1 A3.out).mono ?_);(case side1=>exact Kd.V_mk HC0.out (Kd.F_below (Kd.C_F (Kd.heap_int .i64) HR0.out) bz));rintro e w14 ⟨v640,rfl,ho0,hb⟩;refine⟨_,rfl,?_⟩;have HO641:=hv w (fun k_=>k_≠gb638) ho0 (fun k_ hk_=>Or.elim hk_ (fun hs_=>fun e_=>Nat.not_le.2 hs_ (by rw[e_];exact GW638.out)) (fb BK638 ·));replace BK638:=bb BK638 hb;replace HB:=sb HB hb;(try clear hb);(try clear ho0)))
        replace HO641:=m0 (Kd.V_drew HO641.out);replace BK638:=bd BK638;replace HB:=sd HB;refine start_ (n:=16) (S:=fun w'=>w'.cell? ⟨gb638,0,none⟩=some (.int .i64 a1_0)∧w'.cell? ⟨gb638,1,none⟩=some (.int .i64 a1_1)) (ds:=[]) _ (by kernel_rfl) rfl rfl cz (fun hH=>?_);refine with_tabW L_UndoneIn.tab2 L_UndoneIn.bits2 (fun HT_ HW_=>?_);generalize w14.drew=w15 at HO641 BK638 HB hH ⊢;refine pZ 0 (some 18) (bs 16 1) HT_ ?_;refine pZ 1 (some 19) (bs 16 3) HT_ ?_;refine pZ 4 (some 22) (bs 16 19) HT_ ?_;refine pZ 7 (some 25) (bs 16 147) HT_ ?_;refine pZ 9 (some 27) (bs 16 659) HT_ ?_;refine takeZ 2 (some 20) (bs 16 663) (tw HT_ HW_) hH ?_;refine takeZ 5 (some 23) (bs 16 695) (tw HT_ HW_) hH ?_;refine takeZ 8 (some 26) (bs 16 951) (tw HT_ HW_) hH ?_;refine takeZ 10 (some 28) (bs 16 1975) (tw HT_ HW_) hH ?_;refine pZ 11 (some 29) (bs 16 4023) HT_ ?_;refine oneZ 3 (some 21) (bs 16 4031) (o1 HT_) fun K hK=>?_;refine gz Tryz.func55 #[.int .i64 a1_0] ?_
        with_reducible refine(L_constantErr.calls a1_0 t643 _ A4.out).mono ?_
        rintro e w' ⟨rfl,⟨nd,rfl⟩⟩;refine⟨_,rfl,?_⟩;refine hK.out _ _ cz (fun hH=>?_);clear hK K;refine nz 21 ?_;refine oneZ 6 (some 24) (bs 16 4095) (o1 HT_) fun K hK=>?_;refine gz Tryz.func55 #[.int .i64 a1_1] ?_
        with_reducible refine(L_constantErr.calls a1_1 t644 _ A5.out).mono ?_
        rintro e w' ⟨rfl,⟨nd,rfl⟩⟩;refine⟨_,rfl,?_⟩;refine hK.out _ _ cz (fun hH=>?_);clear hK K;refine nz 24 ?_;refine oneZ 12 (some 30) (bs 16 8191) (o1 HT_) fun K hK=>?_;refine gz Tryz.func49 #[.bool (decide (a1_0≤a1_1)),.int .i64 9] ?_
        with_reducible refine(L_unless.calls (decide (a1_0≤a1_1)) 9 t645 _ A6.out).mono ?_
        rintro e w' ⟨rfl,⟨nd,rfl⟩⟩;refine⟨_,rfl,?_⟩;refine hK.out _ _ cz (fun hH=>?_);clear hK K;refine nz 30 ?_;refine oneZ 13 (some 31) (bs 16 16383) (o1 HT_) fun K hK=>?_;refine Kd.R_lit_step (Kd.int .i64) _ 35 ?hg (N:=31) ?hd (xs:=([t642,t643,t644,t645]:List Int)) (inner:=[.int .i64 t642,.int .i64 t643,.int .i64 t644,.int .i64 t645]) (ok:=fun _=>True) (okp:=fun _=>True) ?hr ?hp (fun _ hk=>hk) trivial (Below.refl _ _) (Nat.le_refl _) (by simp) ?_;(case hd=>rfl);(case hg=>rfl);(case hr=>first|(go_simp;done)|(go_simp;rfl));(case hp=>exact(Reps.one (ki t642) (Reps.one (ki t643) (Reps.one (ki t644) (Reps.one (ki t645) (Reps.none _ _))))))
        intro v647 w16 ho17 hb hg_ hnew_;clear hg_ hnew_
        (first|rw[← Ny646.out]at ho17|(simp only[Int.reduceToNat]at ho17;rw[← Ny646.out]at ho17))
        replace HO641:=m0 (Kd.V_elder' (va HO641.out) (Kd.R_base ho17) hb);have HO648:=m0 (Kd.R_lower ho17 (below_size bz));replace BK638:=bb BK638 hb;replace HB:=sb HB hb;clear hb ho17;obtain⟨Ao18,co18,eo18⟩:=Kd.R_slice HO648.out;subst eo18;refine hK.out _ _ cz (fun hH=>?_);clear hK K;refine nz 31 ?_;refine oneZ 14 (some 32) (bs 16 32767) (o1 HT_) fun K hK=>?_;refine gz Tryz.func48 #[.slice Ao18 y646.length co18] ?_
        with_reducible refine(L_first.calls k _ _ y646 t649 _ ?side1 ?side2 A7.out).mono ?_
        (case side1=>exact bc (Kd.R_reads' HO648.out).2.2)
        (case side2=>exact(Kd.R_reads' HO648.out).2.1)
        rintro e w' ⟨rfl,⟨nd,rfl⟩⟩;refine⟨_,rfl,?_⟩;refine hK.out _ _ cz (fun hH=>?_);clear hK K;refine nz 32 ?_;refine pZ 15 (some 7) (bs 16 65535) HT_ ?_;refine done_ (done_of HT_.out (by kernel_rfl)) ?_;obtain⟨hcz19_0,hcz19_1,hfz19_0,hfz19_1⟩:=b2 BK638;obtain⟨Ao20,co20,eo20⟩:=Kd.V_slice HO641.out;subst eo20
        try go_wp2_with (first|((with_reducible refine gc 60 rfl ?_);refine gl (some 40) Tryz.func60 #[.slice Ao20 t639.length co20,.int .i64 a1_0] ?_;(with_reducible refine(L_profile_shares.calls k _ _ t639 a1_0 t650 t651 _ ?side1 ?side2 A9.out).mono ?_);(case side1=>exact bc (Kd.V_reads' HO641.out).2.2);(case side2=>exact(Kd.V_reads' HO641.out).2.1);rintro e w21 ⟨v652,rfl,ho0,hb⟩;refine⟨_,rfl,?_⟩;replace HO641:=m0 (Kd.V_elder' (va HO641.out) (Kd.R_base ho0) hb);replace HO648:=rb HO648 hb;have HO653:=m0 (Kd.R_lower ho0 (below_size bz));replace BK638:=bb BK638 hb;replace HB:=sb HB hb;(try clear hb);(try clear ho0);obtain⟨hcz22_0,hcz22_1,hfz22_0,hfz22_1⟩:=b2 BK638)|((with_reducible refine gc 60 rfl ?_);refine gl (some 50) Tryz.func60 #[.slice Ao20 t639.length co20,.int .i64 a1_1] ?_;(with_reducible refine(L_profile_shares.calls k _ _ t639 a1_1 t654 t655 _ ?side1 ?side2 A11.out).mono ?_);(case side1=>exact bc (Kd.V_reads' HO641.out).2.2);(case side2=>exact(Kd.V_reads' HO641.out).2.1);rintro e w23 ⟨v656,rfl,ho0,hb⟩;refine⟨_,rfl,?_⟩;replace HO641:=m0 (Kd.V_elder' (va HO641.out) (Kd.R_base ho0) hb);replace HO648:=rb HO648 hb;have HO657:=m0 (Kd.R_lower (Kd.R_new' ho0 (Kd.R_lt (br HO653.out))) (below_size bz));replace HO653:=m0 (Kd.R_elder' (br HO653.out) (Kd.R_base ho0) hb);replace BK638:=bb BK638 hb;replace HB:=sb HB hb;(try clear hb);(try clear ho0);obtain⟨Ao24,co24,eo24⟩:=Kd.R_slice HO657.out;subst eo24))
        go_loopg [10,58] k (fun kq v10 v58 w'=>∃ (x10_1:List (S74)) (x58_1:Int),v58= .int .i64 x58_1∧Aside0 (L_UndoneIn.l0 kq t650 x10_1 t654 (t654.length:Int) x58_1=some (r1,r2))∧Aside0 (kq≤k)∧Aside0 (Kd.R k24 24 w' w.heap.size (fun k_=>some k_≠((.slice Ao24 t654.length co24):Value).ownBlock) v652 t650)∧Aside0 (Kd.R k74 74 w' w.heap.size (fun _=>True) v10 x10_1)∧Aside0 (Kd.R k24 24 w' w.heap.size (fun k_=>some k_≠(v652:Value).ownBlock) (.slice Ao24 t654.length co24) t654)∧Aside0 (w'.heap[gb638]?=some (.cells #[.int .i64 a1_0,.int .i64 a1_1] 40 (0,0)))∧Aside0 (Below w.heap.size w w'))
        case atStart=>exact⟨(([]:List (S74))),(0),rz,H',⟨Nat.le_refl _⟩,⟨by (with_reducible repeat(first|apply Kd.R_alloc|apply Kd.R_drewN|apply Kd.R_drew));exact Kd.R_mono HO653.out (fun _ hk=>hk.2)⟩,⟨by first|exact Kd.R_nil _ _ _ _ _|exact Kd.N_nil _ _ _ _ _|exact Kd.V_nil _ _ _ _ _|exact Kd.Q_nil _ _ _ _ _|exact Kd.S_nil _ _ _ _ _⟩,⟨by (with_reducible repeat(first|apply Kd.R_alloc|apply Kd.R_drewN|apply Kd.R_drew));exact Kd.R_mono HO657.out (fun _ hk=>hk.2)⟩,⟨bk BK638.out⟩,⟨bz⟩⟩
        case round =>
          clear H'
          try clear hcz19_0
          try clear hcz19_1
          try clear hcz22_0
          try clear hcz22_1
          try clear hfz19_0
          try clear hfz19_1
          try clear hfz22_0
          try clear hfz22_1
          obtain⟨x10_1,x58_1,rfl,HA,HK1,HO_8,HO_10,HO_56,BK638,HB⟩:=hrel
          cases gk with
          |zero=>exact absurd HA.out (by simp[L_UndoneIn.l0])
          | succ k1 =>
            have H:=HA.out;clear HA;simp only[L_UndoneIn.l0]at H
            by_cases c25:x58_1<(t654.length:Int)
            · rw [if_pos c25]at H;have c25b0:=decide_eq_true c25;clear c25
              by_cases c26:0≤x58_1
              · rw [if_pos c26]at H;have c26b0:=decide_eq_true c26;clear c26
                by_cases c27:x58_1<(t654.length:Int)
                · rw [if_pos c27]at H;have c27b0:=decide_eq_true c27;clear c27
                  by_cases c28:x58_1<(t650.length:Int)
                  · rw [if_pos c28]at H;have c28b0:=decide_eq_true c28;clear c28
                    by_cases c29:x10_1.length<4398046511104
                    · rw[if_pos c29]at H;have LMc29:=m0 c29;clear c29;obtain⟨y661,hy661⟩:∃ y_:List (S74),y_=(x10_1++ [(⟨(⟨(rd_T24 t654 x58_1).f0,(rd_T24 t654 x58_1).f1⟩:S24),(⟨(rd_T24 t650 x58_1).f0,(rd_T24 t650 x58_1).f1⟩:S24)⟩:S74)]):=⟨_,rfl⟩;replace H:(L_UndoneIn.l0 k1 t650 y661 t654 (t654.length:Int) (wrap64 (x58_1+1)))=some (r1,r2):=hq hy661 H
                      have Ny661:=m0 hy661;clear hy661;have H':=m0 H;clear H;have p658:0≤(x58_1:Int):=od;have q658:x58_1<(t654.length:Int):=od;obtain⟨ad658,e658,hx658_0,hx658_1⟩:=at_T24 (Kd.R_reads' HO_56.out).2.2 x58_1 p658 q658
                      cases e658
                      replace p658:=eq_true p658;replace q658:=eq_true q658
                      try go_wp2_with (first|((with_reducible refine ga 12 rfl ?_);refine be 12 24 #[.int .i64 0,.int .i64 0] ?_;intro gb659 hg w30 hbox hb;replace HO_8:=m0 (Kd.R_below (Kd.R_elderB (br HO_8.out) gb659 (Nat.le_of_eq hg.symm)) hb);replace HO_10:=rb HO_10 hb;replace HO_56:=m0 (Kd.R_below (Kd.R_elderB (br HO_56.out) gb659 (Nat.le_of_eq hg.symm)) hb);have BK659:=m0 hbox;have GE659:=gw w hg;replace HB:=sb HB hb;have NB638_659:=nl BK638 hg;have NB659_638:=ng (nl BK638 hg);replace BK638:=bb BK638 hb;clear hb hbox hg;have hnb31:=NB659_638.out;have hnc31:=NB638_659.out;obtain⟨_,_,_,_⟩:=b2 BK659))
                      replace HO_8:Aside0 (Kd.R k24 24 ((w30.setCell ⟨gb659,0,none⟩ (.int .i64 ((rd_T24 t654 x58_1).f0))).setCell ⟨gb659,1,none⟩ (.int .i64 ((rd_T24 t654 x58_1).f1))) w.heap.size (fun k_=>some k_≠(.slice (some ad658) t654.length co24:Value).ownBlock∧k_≠gb659) v652 t650):=⟨by (with_reducible repeat(first|apply Kd.R_alloc|apply Kd.R_drewN|apply Kd.R_drew));exact Kd.R_mono (rf (rf (rn gb659 HO_8.out (·.2)) (·.2)) (·.2)) (fun _ hk=>⟨hk.1.1,hk.1.2⟩)⟩;replace HO_10:Aside0 (Kd.R k74 74 ((w30.setCell ⟨gb659,0,none⟩ (.int .i64 ((rd_T24 t654 x58_1).f0))).setCell ⟨gb659,1,none⟩ (.int .i64 ((rd_T24 t654 x58_1).f1))) w.heap.size (fun _=>True) u10 x10_1):=⟨by (with_reducible repeat(first|apply Kd.R_alloc|apply Kd.R_drewN|apply Kd.R_drew));exact Kd.R_mono (rf (rf (Kd.R_types HO_10.out BK659.out (by decide)) (·.2)) (·.2)) (fun _ hk=>trivial)⟩;replace HO_56:Aside0 (Kd.R k24 24 ((w30.setCell ⟨gb659,0,none⟩ (.int .i64 ((rd_T24 t654 x58_1).f0))).setCell ⟨gb659,1,none⟩ (.int .i64 ((rd_T24 t654 x58_1).f1))) w.heap.size (fun k_=>some k_≠(v652:Value).ownBlock∧k_≠gb659) (.slice (some ad658) t654.length co24) t654):=⟨by (with_reducible repeat(first|apply Kd.R_alloc|apply Kd.R_drewN|apply Kd.R_drew));exact Kd.R_mono (rf (rf (rn gb659 HO_56.out (·.2)) (·.2)) (·.2)) (fun _ hk=>⟨hk.1.1,hk.1.2⟩)⟩;replace BK638:Aside0 (((w30.setCell ⟨gb659,0,none⟩ (.int .i64 ((rd_T24 t654 x58_1).f0))).setCell ⟨gb659,1,none⟩ (.int .i64 ((rd_T24 t654 x58_1).f1))).heap[gb638]?=some (.cells #[.int .i64 a1_0,.int .i64 a1_1] 40 (0,0))):=⟨bq BK638.out⟩;replace BK659:Aside0 (((w30.setCell ⟨gb659,0,none⟩ (.int .i64 ((rd_T24 t654 x58_1).f0))).setCell ⟨gb659,1,none⟩ (.int .i64 ((rd_T24 t654 x58_1).f1))).heap[gb659]?=some (.cells #[.int .i64 ((rd_T24 t654 x58_1).f0),.int .i64 ((rd_T24 t654 x58_1).f1)] 24 (0,0))):=⟨bq BK659.out⟩;replace HB:Aside0 (Below w.heap.size w ((w30.setCell ⟨gb659,0,none⟩ (.int .i64 ((rd_T24 t654 x58_1).f0))).setCell ⟨gb659,1,none⟩ (.int .i64 ((rd_T24 t654 x58_1).f1)))):=⟨bz⟩;generalize ((w30.setCell ⟨gb659,0,none⟩ (.int .i64 ((rd_T24 t654 x58_1).f0))).setCell ⟨gb659,1,none⟩ (.int .i64 ((rd_T24 t654 x58_1).f1)))=w33 at HO_8 HO_10 HO_56 BK638 BK659 HB ⊢;replace HO_8:=m0 (Kd.R_drew HO_8.out);replace HO_10:=m0 (Kd.R_drew HO_10.out);replace HO_56:=m0 (Kd.R_drew HO_56.out);replace BK638:=bd BK638;replace BK659:=bd BK659;replace HB:=sd HB;obtain⟨Ao35,co35,eo35⟩:=Kd.R_slice HO_8.out;subst eo35;have p660:0≤(x58_1:Int):=od;have q660:x58_1<(t650.length:Int):=od;obtain⟨ad660,e660,hx660_0,hx660_1⟩:=at_T24 (Kd.R_reads' HO_8.out).2.2 x58_1 p660 q660
                      cases e660
                      replace p660:=eq_true p660;replace q660:=eq_true q660;refine start_ (n:=10) (S:=fun w'=>w'.cell? ⟨gb659,0,none⟩=some (.int .i64 ((rd_T24 t654 x58_1).f0))∧w'.cell? ⟨gb659,1,none⟩=some (.int .i64 ((rd_T24 t654 x58_1).f1))∧w'.cell? (ad660.add ((x58_1).toNat*2))=some (.int .i64 ((rd_T24 t650 x58_1).f0))∧w'.cell? ⟨(ad660.add ((x58_1).toNat*2)).block,(ad660.add ((x58_1).toNat*2)).off+1,none⟩=some (.int .i64 ((rd_T24 t650 x58_1).f1))) (ds:=[7,8]) _ (by kernel_rfl) rfl rfl ⟨(blk_cell BK659.out 0).trans rfl,(blk_cell BK659.out 1).trans rfl,hx660_0,hx660_1⟩ (fun hH=>?_);refine with_tabW L_UndoneIn.tab15 L_UndoneIn.bits15 (fun HT_ HW_=>?_);generalize w33.drew=w34 at HO_8 HO_10 HO_56 BK638 BK659 HB hx660_0 hx660_1 hH ⊢;refine pZ 0 (some 63) (bs 10 1) HT_ ?_;refine pZ 2 (some 65) (bs 10 5) HT_ ?_;refine pZ 3 (some 66) (bs 10 13) HT_ ?_;refine pZ 4 (some 67) (bs 10 29) HT_ ?_;refine takeZ 1 (some 64) (bs 10 31) (tw HT_ HW_) hH ?_;refine takeZ 5 (some 68) (bs 10 63) (tw HT_ HW_) hH ?_;refine pZ 6 (some 69) (bs 10 127) HT_ ?_;refine last_ (i:=7) (N:=some 70) (bs 10 255) rfl rfl (o1 HT_) (by decide) (fun K hK=>?_);refine value_ (w1:=?_) (v:=?_) (by rfl) rfl ?_ ?_;rotate_left 2
                      · go_simp
                        constructor
                        · rfl
                        · rfl
                      refine hK.out _ _ ?_;clear hK K;refine nz 70 ?_;refine last_ (i:=8) (N:=some 71) (bs 10 511) rfl rfl (o1 HT_) (by decide) (fun K hK=>?_);refine Kd.R_append_step k74 (w0:=w) w.heap.size (by rfl) (.tmp 63) (.tmp 70) 58 74 (.agg #[(.int .i64 0),(.int .i64 0),(.int .i64 0),(.int .i64 0)]) 32 rfl Tryz.underlying58 info74 rfl (by decide) (by omega) u10 x10_1 (⟨(⟨(rd_T24 t654 x58_1).f0,(rd_T24 t654 x58_1).f1⟩:S24),(⟨(rd_T24 t650 x58_1).f0,(rd_T24 t650 x58_1).f1⟩:S24)⟩:S74) [.int .i64 ((rd_T24 t654 x58_1).f0),.int .i64 ((rd_T24 t654 x58_1).f1),.int .i64 ((rd_T24 t650 x58_1).f0),.int .i64 ((rd_T24 t650 x58_1).f1)] (fun _=>True) (fun _=>False) rfl rfl ?aP (fun _ hk=>hk.elim) ?aF ?aO ?aB ?aS ?aL ?_
                      (case aP=>exact k74_mkM _ _ _ (⟨(⟨(rd_T24 t654 x58_1).f0,(rd_T24 t654 x58_1).f1⟩:S24),(⟨(rd_T24 t650 x58_1).f0,(rd_T24 t650 x58_1).f1⟩:S24)⟩:S74))
                      (case aB=>exact bz)
                      (case aF=>exact(fun _ _=>trivial))
                      (case aO=>exact(br HO_10.out))
                      (case aS=>exact(below_size bz))
                      (case aL=>have:=LMc29.out;omega)
                      intro v662 w36 ho hb hg hat;rw[← Ny661.out]at ho;have n0_:=m0 (Kd.R_over' (br HO_8.out) (Kd.R_typed (br HO_10.out)) (by decide) hg);have n1_:=m0 (Kd.R_over' (br HO_56.out) (Kd.R_typed (br HO_10.out)) (by decide) hg);have n2_:=m0 (blk_grown (g:=gb638) (o:= .cells #[.int .i64 a1_0,.int .i64 a1_1] 40 (0,0)) (bk BK638.out) hg (Kd.R_ne HO_10.out BK638.out (by decide)));have n3_:=m0 (blk_grown (g:=gb659) (o:= .cells #[.int .i64 ((rd_T24 t654 x58_1).f0),.int .i64 ((rd_T24 t654 x58_1).f1)] 24 (0,0)) (bk BK659.out) hg (Kd.R_ne HO_10.out BK659.out (by decide)));have n4_:=m0 (hb);have n5_:=m0 (ho);clear HO_8 HO_56 BK638 BK659 HB HO_10;have HO_8:=n0_;have HO_56:=n1_;have BK638:=n2_;have BK659:=n3_;have HB:=n4_;have HO663:=n5_;clear n0_ n1_ n2_ n3_ n4_ n5_;clear ho hb hg hat;refine hK.out _ _ ?_;clear hK K;refine nz 71 ?_;refine pZ 9 (some 10) (bs 10 1023) HT_ ?_;refine done_ (done_of HT_.out (by kernel_rfl)) ?_
                      try go_wp2
                      go_roundg k1
                      case measure=>have:=HK1.out;omega
                      case rel=>exact⟨(y661),(wrap64 (x58_1+1)),rz,H',⟨by have:=HK1.out;omega⟩,⟨by (with_reducible repeat(first|apply Kd.R_alloc|apply Kd.R_drewN|apply Kd.R_drew));exact Kd.R_mono HO_8.out (fun _ hk=>hk.1)⟩,⟨br HO663.out⟩,⟨by (with_reducible repeat(first|apply Kd.R_alloc|apply Kd.R_drewN|apply Kd.R_drew));exact Kd.R_mono HO_56.out (fun _ hk=>hk.1)⟩,⟨bk BK638.out⟩,⟨bz⟩⟩
                    · rw[if_neg c29]at H;exact absurd H (by simp)
                  · rw[if_neg c28]at H;exact absurd H (by simp)
                · rw[if_neg c27]at H;exact absurd H (by simp)
              · rw[if_neg c26]at H;exact absurd H (by simp)
            · rw[if_neg c25]at H;have c25b0:=decide_eq_false c25;clear c25;simp only[Option.some.injEq,Prod.mk.injEq]at H;obtain⟨rfl,rfl⟩:=H
              go_wp2
              go_ret2
              exact⟨_,e4,by(with_reducible repeat(first|apply Kd.R_alloc|apply Kd.R_drewN|apply Kd.R_drew));exact HO_10.out,bz⟩
      · rw[if_neg c12]at H;have c12b0:=beq_eq_false_iff_ne.mpr c12;have c12b1:=bne_iff_ne.mpr c12;simp only[Option.some.injEq,Prod.mk.injEq]at H;obtain⟨rfl,rfl⟩:=H;go_enter Tryz.func25,Tryz.ntmps25
        try go_wp2_with (first|((with_reducible refine ga 3 rfl ?_);refine be 3 40 #[.int .i64 a1_0,.int .i64 a1_1] ?_;intro gb638 hg w37 hbox hb;have BK638:=m0 hbox;have GW638:=gw w hg;have GE638:=gw w hg;replace HB:=sb HB hb;clear hb hbox hg)|((with_reducible refine gc 45 rfl ?_);refine gl (some 15) Tryz.func45 #[.slice A0 l0.length c0] ?_;(with_reducible refine(L_open.calls k (fun k_=>k_<w.heap.size) _ _ l0 t639 t642 _ ?side1 A3.out).mono ?_);(case side1=>exact Kd.V_mk HC0.out (Kd.F_below (Kd.C_F (Kd.heap_int .i64) HR0.out) bz));rintro e w38 ⟨v640,rfl,ho0,hb⟩;refine⟨_,rfl,?_⟩;have HO641:=hv w (fun k_=>k_≠gb638) ho0 (fun k_ hk_=>Or.elim hk_ (fun hs_=>fun e_=>Nat.not_le.2 hs_ (by rw[e_];exact GW638.out)) (fb BK638 ·));replace BK638:=bb BK638 hb;replace HB:=sb HB hb;(try clear hb);(try clear ho0)))
        replace HO641:=m0 (Kd.V_drew HO641.out);replace BK638:=bd BK638;replace HB:=sd HB;refine start_ (n:=16) (S:=fun w'=>w'.cell? ⟨gb638,0,none⟩=some (.int .i64 a1_0)∧w'.cell? ⟨gb638,1,none⟩=some (.int .i64 a1_1)) (ds:=[]) _ (by kernel_rfl) rfl rfl cz (fun hH=>?_);refine with_tabW L_UndoneIn.tab2 L_UndoneIn.bits2 (fun HT_ HW_=>?_);generalize w38.drew=w39 at HO641 BK638 HB hH ⊢;refine pZ 0 (some 18) (bs 16 1) HT_ ?_;refine pZ 1 (some 19) (bs 16 3) HT_ ?_;refine pZ 4 (some 22) (bs 16 19) HT_ ?_;refine pZ 7 (some 25) (bs 16 147) HT_ ?_;refine pZ 9 (some 27) (bs 16 659) HT_ ?_;refine takeZ 2 (some 20) (bs 16 663) (tw HT_ HW_) hH ?_;refine takeZ 5 (some 23) (bs 16 695) (tw HT_ HW_) hH ?_;refine takeZ 8 (some 26) (bs 16 951) (tw HT_ HW_) hH ?_;refine takeZ 10 (some 28) (bs 16 1975) (tw HT_ HW_) hH ?_;refine pZ 11 (some 29) (bs 16 4023) HT_ ?_;refine oneZ 3 (some 21) (bs 16 4031) (o1 HT_) fun K hK=>?_;refine gz Tryz.func55 #[.int .i64 a1_0] ?_
        with_reducible refine(L_constantErr.calls a1_0 t643 _ A4.out).mono ?_
        rintro e w' ⟨rfl,⟨nd,rfl⟩⟩;refine⟨_,rfl,?_⟩;refine hK.out _ _ cz (fun hH=>?_);clear hK K;refine nz 21 ?_;refine oneZ 6 (some 24) (bs 16 4095) (o1 HT_) fun K hK=>?_;refine gz Tryz.func55 #[.int .i64 a1_1] ?_
        with_reducible refine(L_constantErr.calls a1_1 t644 _ A5.out).mono ?_
        rintro e w' ⟨rfl,⟨nd,rfl⟩⟩;refine⟨_,rfl,?_⟩;refine hK.out _ _ cz (fun hH=>?_);clear hK K;refine nz 24 ?_;refine oneZ 12 (some 30) (bs 16 8191) (o1 HT_) fun K hK=>?_;refine gz Tryz.func49 #[.bool (decide (a1_0≤a1_1)),.int .i64 9] ?_
        with_reducible refine(L_unless.calls (decide (a1_0≤a1_1)) 9 t645 _ A6.out).mono ?_
        rintro e w' ⟨rfl,⟨nd,rfl⟩⟩;refine⟨_,rfl,?_⟩;refine hK.out _ _ cz (fun hH=>?_);clear hK K;refine nz 30 ?_;refine oneZ 13 (some 31) (bs 16 16383) (o1 HT_) fun K hK=>?_;refine Kd.R_lit_step (Kd.int .i64) _ 35 ?hg (N:=31) ?hd (xs:=([t642,t643,t644,t645]:List Int)) (inner:=[.int .i64 t642,.int .i64 t643,.int .i64 t644,.int .i64 t645]) (ok:=fun _=>True) (okp:=fun _=>True) ?hr ?hp (fun _ hk=>hk) trivial (Below.refl _ _) (Nat.le_refl _) (by simp) ?_;(case hd=>rfl);(case hg=>rfl);(case hr=>first|(go_simp;done)|(go_simp;rfl));(case hp=>exact(Reps.one (ki t642) (Reps.one (ki t643) (Reps.one (ki t644) (Reps.one (ki t645) (Reps.none _ _))))))
        intro v647 w40 ho41 hb hg_ hnew_;clear hg_ hnew_
        (first|rw[← Ny646.out]at ho41|(simp only[Int.reduceToNat]at ho41;rw[← Ny646.out]at ho41))
        replace HO641:=m0 (Kd.V_elder' (va HO641.out) (Kd.R_base ho41) hb);have HO648:=m0 (Kd.R_lower ho41 (below_size bz));replace BK638:=bb BK638 hb;replace HB:=sb HB hb;clear hb ho41;obtain⟨Ao42,co42,eo42⟩:=Kd.R_slice HO648.out;subst eo42;refine hK.out _ _ cz (fun hH=>?_);clear hK K;refine nz 31 ?_;refine oneZ 14 (some 32) (bs 16 32767) (o1 HT_) fun K hK=>?_;refine gz Tryz.func48 #[.slice Ao42 y646.length co42] ?_
        with_reducible refine(L_first.calls k _ _ y646 t649 _ ?side1 ?side2 A7.out).mono ?_
        (case side1=>exact bc (Kd.R_reads' HO648.out).2.2)
        (case side2=>exact(Kd.R_reads' HO648.out).2.1)
        rintro e w' ⟨rfl,⟨nd,rfl⟩⟩;refine⟨_,rfl,?_⟩;refine hK.out _ _ cz (fun hH=>?_);clear hK K;refine nz 32 ?_;refine pZ 15 (some 7) (bs 16 65535) HT_ ?_;refine done_ (done_of HT_.out (by kernel_rfl)) ?_;obtain⟨_,_,_,_⟩:=b2 BK638;obtain⟨Ao44,co44,eo44⟩:=Kd.V_slice HO641.out;subst eo44
        try go_wp2_with (first|((with_reducible refine gc 60 rfl ?_);refine gl (some 40) Tryz.func60 #[.slice Ao44 t639.length co44,.int .i64 a1_0] ?_;(with_reducible refine(L_profile_shares.calls k _ _ t639 a1_0 t650 t651 _ ?side1 ?side2 A9.out).mono ?_);(case side1=>exact bc (Kd.V_reads' HO641.out).2.2);(case side2=>exact(Kd.V_reads' HO641.out).2.1);rintro e w45 ⟨v652,rfl,ho0,hb⟩;refine⟨_,rfl,?_⟩;replace HO641:=m0 (Kd.V_elder' (va HO641.out) (Kd.R_base ho0) hb);replace HO648:=rb HO648 hb;have HO653:=m0 (Kd.R_lower ho0 (below_size bz));replace BK638:=bb BK638 hb;replace HB:=sb HB hb;(try clear hb);(try clear ho0);obtain⟨_,_,_,_⟩:=b2 BK638)|((with_reducible refine gc 60 rfl ?_);refine gl (some 50) Tryz.func60 #[.slice Ao44 t639.length co44,.int .i64 a1_1] ?_;(with_reducible refine(L_profile_shares.calls k _ _ t639 a1_1 t654 t655 _ ?side1 ?side2 A11.out).mono ?_);(case side1=>exact bc (Kd.V_reads' HO641.out).2.2);(case side2=>exact(Kd.V_reads' HO641.out).2.1);rintro e w47 ⟨v656,rfl,ho0,hb⟩;refine⟨_,rfl,?_⟩;replace HO641:=m0 (Kd.V_elder' (va HO641.out) (Kd.R_base ho0) hb);replace HO648:=rb HO648 hb;have HO657:=m0 (Kd.R_lower (Kd.R_new' ho0 (Kd.R_lt (br HO653.out))) (below_size bz));replace HO653:=m0 (Kd.R_elder' (br HO653.out) (Kd.R_base ho0) hb);replace BK638:=bb BK638 hb;replace HB:=sb HB hb;(try clear hb);(try clear ho0)))
        go_ret2
        exact⟨_,e4,by first|exact Kd.R_nil _ _ _ _ _|exact Kd.N_nil _ _ _ _ _|exact Kd.V_nil _ _ _ _ _|exact Kd.Q_nil _ _ _ _ _|exact Kd.S_nil _ _ _ _ _,bz⟩
    · rw[if_neg c10]at H;have c10b0:=beq_eq_false_iff_ne.mpr c10;have c10b1:=bne_iff_ne.mpr c10;simp only[Option.some.injEq,Prod.mk.injEq]at H;obtain⟨rfl,rfl⟩:=H;go_enter Tryz.func25,Tryz.ntmps25
      try go_wp2_with (first|((with_reducible refine ga 3 rfl ?_);refine be 3 40 #[.int .i64 a1_0,.int .i64 a1_1] ?_;intro gb638 hg w48 hbox hb;have BK638:=m0 hbox;have GW638:=gw w hg;have GE638:=gw w hg;replace HB:=sb HB hb;clear hb hbox hg)|((with_reducible refine gc 45 rfl ?_);refine gl (some 15) Tryz.func45 #[.slice A0 l0.length c0] ?_;(with_reducible refine(L_open.calls k (fun k_=>k_<w.heap.size) _ _ l0 t639 t642 _ ?side1 A3.out).mono ?_);(case side1=>exact Kd.V_mk HC0.out (Kd.F_below (Kd.C_F (Kd.heap_int .i64) HR0.out) bz));rintro e w49 ⟨v640,rfl,ho0,hb⟩;refine⟨_,rfl,?_⟩;have HO641:=hv w (fun k_=>k_≠gb638) ho0 (fun k_ hk_=>Or.elim hk_ (fun hs_=>fun e_=>Nat.not_le.2 hs_ (by rw[e_];exact GW638.out)) (fb BK638 ·));replace BK638:=bb BK638 hb;replace HB:=sb HB hb;(try clear hb);(try clear ho0)))
      replace HO641:=m0 (Kd.V_drew HO641.out);replace BK638:=bd BK638;replace HB:=sd HB;refine start_ (n:=16) (S:=fun w'=>w'.cell? ⟨gb638,0,none⟩=some (.int .i64 a1_0)∧w'.cell? ⟨gb638,1,none⟩=some (.int .i64 a1_1)) (ds:=[]) _ (by kernel_rfl) rfl rfl cz (fun hH=>?_);refine with_tabW L_UndoneIn.tab2 L_UndoneIn.bits2 (fun HT_ HW_=>?_);generalize w49.drew=w50 at HO641 BK638 HB hH ⊢;refine pZ 0 (some 18) (bs 16 1) HT_ ?_;refine pZ 1 (some 19) (bs 16 3) HT_ ?_;refine pZ 4 (some 22) (bs 16 19) HT_ ?_;refine pZ 7 (some 25) (bs 16 147) HT_ ?_;refine pZ 9 (some 27) (bs 16 659) HT_ ?_;refine takeZ 2 (some 20) (bs 16 663) (tw HT_ HW_) hH ?_;refine takeZ 5 (some 23) (bs 16 695) (tw HT_ HW_) hH ?_;refine takeZ 8 (some 26) (bs 16 951) (tw HT_ HW_) hH ?_;refine takeZ 10 (some 28) (bs 16 1975) (tw HT_ HW_) hH ?_;refine pZ 11 (some 29) (bs 16 4023) HT_ ?_;refine oneZ 3 (some 21) (bs 16 4031) (o1 HT_) fun K hK=>?_;refine gz Tryz.func55 #[.int .i64 a1_0] ?_
      with_reducible refine(L_constantErr.calls a1_0 t643 _ A4.out).mono ?_
      rintro e w' ⟨rfl,⟨nd,rfl⟩⟩;refine⟨_,rfl,?_⟩;refine hK.out _ _ cz (fun hH=>?_);clear hK K;refine nz 21 ?_;refine oneZ 6 (some 24) (bs 16 4095) (o1 HT_) fun K hK=>?_;refine gz Tryz.func55 #[.int .i64 a1_1] ?_
      with_reducible refine(L_constantErr.calls a1_1 t644 _ A5.out).mono ?_
      rintro e w' ⟨rfl,⟨nd,rfl⟩⟩;refine⟨_,rfl,?_⟩;refine hK.out _ _ cz (fun hH=>?_);clear hK K;refine nz 24 ?_;refine oneZ 12 (some 30) (bs 16 8191) (o1 HT_) fun K hK=>?_;refine gz Tryz.func49 #[.bool (decide (a1_0≤a1_1)),.int .i64 9] ?_
      with_reducible refine(L_unless.calls (decide (a1_0≤a1_1)) 9 t645 _ A6.out).mono ?_
      rintro e w' ⟨rfl,⟨nd,rfl⟩⟩;refine⟨_,rfl,?_⟩;refine hK.out _ _ cz (fun hH=>?_);clear hK K;refine nz 30 ?_;refine oneZ 13 (some 31) (bs 16 16383) (o1 HT_) fun K hK=>?_;refine Kd.R_lit_step (Kd.int .i64) _ 35 ?hg (N:=31) ?hd (xs:=([t642,t643,t644,t645]:List Int)) (inner:=[.int .i64 t642,.int .i64 t643,.int .i64 t644,.int .i64 t645]) (ok:=fun _=>True) (okp:=fun _=>True) ?hr ?hp (fun _ hk=>hk) trivial (Below.refl _ _) (Nat.le_refl _) (by simp) ?_;(case hd=>rfl);(case hg=>rfl);(case hr=>first|(go_simp;done)|(go_simp;rfl));(case hp=>exact(Reps.one (ki t642) (Reps.one (ki t643) (Reps.one (ki t644) (Reps.one (ki t645) (Reps.none _ _))))))
      intro v647 w51 ho52 hb hg_ hnew_;clear hg_ hnew_
      (first|rw[← Ny646.out]at ho52|(simp only[Int.reduceToNat]at ho52;rw[← Ny646.out]at ho52))
      replace HO641:=m0 (Kd.V_elder' (va HO641.out) (Kd.R_base ho52) hb);have HO648:=m0 (Kd.R_lower ho52 (below_size bz));replace BK638:=bb BK638 hb;replace HB:=sb HB hb;clear hb ho52;obtain⟨Ao53,co53,eo53⟩:=Kd.R_slice HO648.out;subst eo53;refine hK.out _ _ cz (fun hH=>?_);clear hK K;refine nz 31 ?_;refine oneZ 14 (some 32) (bs 16 32767) (o1 HT_) fun K hK=>?_;refine gz Tryz.func48 #[.slice Ao53 y646.length co53] ?_
      with_reducible refine(L_first.calls k _ _ y646 t649 _ ?side1 ?side2 A7.out).mono ?_
      (case side1=>exact bc (Kd.R_reads' HO648.out).2.2)
      (case side2=>exact(Kd.R_reads' HO648.out).2.1)
      rintro e w' ⟨rfl,⟨nd,rfl⟩⟩;refine⟨_,rfl,?_⟩;refine hK.out _ _ cz (fun hH=>?_);clear hK K;refine nz 32 ?_;refine pZ 15 (some 7) (bs 16 65535) HT_ ?_;refine done_ (done_of HT_.out (by kernel_rfl)) ?_;obtain⟨_,_,_,_⟩:=b2 BK638;obtain⟨Ao55,co55,eo55⟩:=Kd.V_slice HO641.out;subst eo55
      try go_wp2_with (first|((with_reducible refine gc 60 rfl ?_);refine gl (some 40) Tryz.func60 #[.slice Ao55 t639.length co55,.int .i64 a1_0] ?_;(with_reducible refine(L_profile_shares.calls k _ _ t639 a1_0 t650 t651 _ ?side1 ?side2 A9.out).mono ?_);(case side1=>exact bc (Kd.V_reads' HO641.out).2.2);(case side2=>exact(Kd.V_reads' HO641.out).2.1);rintro e w56 ⟨v652,rfl,ho0,hb⟩;refine⟨_,rfl,?_⟩;replace HO641:=m0 (Kd.V_elder' (va HO641.out) (Kd.R_base ho0) hb);replace HO648:=rb HO648 hb;have HO653:=m0 (Kd.R_lower ho0 (below_size bz));replace BK638:=bb BK638 hb;replace HB:=sb HB hb;(try clear hb);(try clear ho0)))
      go_ret2
      exact⟨_,e4,by first|exact Kd.R_nil _ _ _ _ _|exact Kd.N_nil _ _ _ _ _|exact Kd.V_nil _ _ _ _ _|exact Kd.Q_nil _ _ _ _ _|exact Kd.S_nil _ _ _ _ _,bz⟩
  · rw[if_neg c8]at H;have c8b0:=beq_eq_false_iff_ne.mpr c8;have c8b1:=bne_iff_ne.mpr c8;simp only[Option.some.injEq,Prod.mk.injEq]at H;obtain⟨rfl,rfl⟩:=H;go_enter Tryz.func25,Tryz.ntmps25
    try go_wp2_with (first|((with_reducible refine ga 3 rfl ?_);refine be 3 40 #[.int .i64 a1_0,.int .i64 a1_1] ?_;intro gb638 hg w57 hbox hb;have BK638:=m0 hbox;have GW638:=gw w hg;have GE638:=gw w hg;replace HB:=sb HB hb;clear hb hbox hg)|((with_reducible refine gc 45 rfl ?_);refine gl (some 15) Tryz.func45 #[.slice A0 l0.length c0] ?_;(with_reducible refine(L_open.calls k (fun k_=>k_<w.heap.size) _ _ l0 t639 t642 _ ?side1 A3.out).mono ?_);(case side1=>exact Kd.V_mk HC0.out (Kd.F_below (Kd.C_F (Kd.heap_int .i64) HR0.out) bz));rintro e w58 ⟨v640,rfl,ho0,hb⟩;refine⟨_,rfl,?_⟩;have HO641:=hv w (fun k_=>k_≠gb638) ho0 (fun k_ hk_=>Or.elim hk_ (fun hs_=>fun e_=>Nat.not_le.2 hs_ (by rw[e_];exact GW638.out)) (fb BK638 ·));replace BK638:=bb BK638 hb;replace HB:=sb HB hb;(try clear hb);(try clear ho0)))
    replace HO641:=m0 (Kd.V_drew HO641.out);replace BK638:=bd BK638;replace HB:=sd HB;refine start_ (n:=16) (S:=fun w'=>w'.cell? ⟨gb638,0,none⟩=some (.int .i64 a1_0)∧w'.cell? ⟨gb638,1,none⟩=some (.int .i64 a1_1)) (ds:=[]) _ (by kernel_rfl) rfl rfl cz (fun hH=>?_);refine with_tabW L_UndoneIn.tab2 L_UndoneIn.bits2 (fun HT_ HW_=>?_);generalize w58.drew=w59 at HO641 BK638 HB hH ⊢;refine pZ 0 (some 18) (bs 16 1) HT_ ?_;refine pZ 1 (some 19) (bs 16 3) HT_ ?_;refine pZ 4 (some 22) (bs 16 19) HT_ ?_;refine pZ 7 (some 25) (bs 16 147) HT_ ?_;refine pZ 9 (some 27) (bs 16 659) HT_ ?_;refine takeZ 2 (some 20) (bs 16 663) (tw HT_ HW_) hH ?_;refine takeZ 5 (some 23) (bs 16 695) (tw HT_ HW_) hH ?_;refine takeZ 8 (some 26) (bs 16 951) (tw HT_ HW_) hH ?_;refine takeZ 10 (some 28) (bs 16 1975) (tw HT_ HW_) hH ?_;refine pZ 11 (some 29) (bs 16 4023) HT_ ?_;refine oneZ 3 (some 21) (bs 16 4031) (o1 HT_) fun K hK=>?_;refine gz Tryz.func55 #[.int .i64 a1_0] ?_
    with_reducible refine(L_constantErr.calls a1_0 t643 _ A4.out).mono ?_
    rintro e w' ⟨rfl,⟨nd,rfl⟩⟩;refine⟨_,rfl,?_⟩;refine hK.out _ _ cz (fun hH=>?_);clear hK K;refine nz 21 ?_;refine oneZ 6 (some 24) (bs 16 4095) (o1 HT_) fun K hK=>?_;refine gz Tryz.func55 #[.int .i64 a1_1] ?_
    with_reducible refine(L_constantErr.calls a1_1 t644 _ A5.out).mono ?_
    rintro e w' ⟨rfl,⟨nd,rfl⟩⟩;refine⟨_,rfl,?_⟩;refine hK.out _ _ cz (fun hH=>?_);clear hK K;refine nz 24 ?_;refine oneZ 12 (some 30) (bs 16 8191) (o1 HT_) fun K hK=>?_;refine gz Tryz.func49 #[.bool (decide (a1_0≤a1_1)),.int .i64 9] ?_
    with_reducible refine(L_unless.calls (decide (a1_0≤a1_1)) 9 t645 _ A6.out).mono ?_
    rintro e w' ⟨rfl,⟨nd,rfl⟩⟩;refine⟨_,rfl,?_⟩;refine hK.out _ _ cz (fun hH=>?_);clear hK K;refine nz 30 ?_;refine oneZ 13 (some 31) (bs 16 16383) (o1 HT_) fun K hK=>?_;refine Kd.R_lit_step (Kd.int .i64) _ 35 ?hg (N:=31) ?hd (xs:=([t642,t643,t644,t645]:List Int)) (inner:=[.int .i64 t642,.int .i64 t643,.int .i64 t644,.int .i64 t645]) (ok:=fun _=>True) (okp:=fun _=>True) ?hr ?hp (fun _ hk=>hk) trivial (Below.refl _ _) (Nat.le_refl _) (by simp) ?_;(case hd=>rfl);(case hg=>rfl);(case hr=>first|(go_simp;done)|(go_simp;rfl));(case hp=>exact(Reps.one (ki t642) (Reps.one (ki t643) (Reps.one (ki t644) (Reps.one (ki t645) (Reps.none _ _))))))
    intro v647 w60 ho61 hb hg_ hnew_;clear hg_ hnew_
    (first|rw[← Ny646.out]at ho61|(simp only[Int.reduceToNat]at ho61;rw[← Ny646.out]at ho61))
    replace HO641:=m0 (Kd.V_elder' (va HO641.out) (Kd.R_base ho61) hb);have HO648:=m0 (Kd.R_lower ho61 (below_size bz));replace BK638:=bb BK638 hb;replace HB:=sb HB hb;clear hb ho61;obtain⟨Ao62,co62,eo62⟩:=Kd.R_slice HO648.out;subst eo62;refine hK.out _ _ cz (fun hH=>?_);clear hK K;refine nz 31 ?_;refine oneZ 14 (some 32) (bs 16 32767) (o1 HT_) fun K hK=>?_;refine gz Tryz.func48 #[.slice Ao62 y646.length co62] ?_
    with_reducible refine(L_first.calls k _ _ y646 t649 _ ?side1 ?side2 A7.out).mono ?_
    (case side1=>exact bc (Kd.R_reads' HO648.out).2.2)
    (case side2=>exact(Kd.R_reads' HO648.out).2.1)
    rintro e w' ⟨rfl,⟨nd,rfl⟩⟩;refine⟨_,rfl,?_⟩;refine hK.out _ _ cz (fun hH=>?_);clear hK K;refine nz 32 ?_;refine pZ 15 (some 7) (bs 16 65535) HT_ ?_;refine done_ (done_of HT_.out (by kernel_rfl)) ?_
    try go_wp2
    go_ret2
    exact⟨_,e4,by first|exact Kd.R_nil _ _ _ _ _|exact Kd.N_nil _ _ _ _ _|exact Kd.V_nil _ _ _ _ _|exact Kd.Q_nil _ _ _ _ _|exact Kd.S_nil _ _ _ _ _,bz⟩
end
section
theorem slices_Clip_int_int.full (A:Option Addr) (n c:Nat) (w:World) (hc:n≤c):Calls Tryz.prog 86 #[.slice A n c] w fun e w'=>e= .returned (.slice A n n)∧Drawn0 w w':=by
 obtain⟨i0,hi0,_,_,_⟩:=info_parts info3;have hcut:=cut_full (P:=Tryz.prog) 22 3 Tryz.underlying22 hi0 A n c hc;clear hi0 hc;go_enter Tryz.func86,Tryz.ntmps86
 go_wp2
 go_ret
 exact⟨rz,dz⟩
end
end Go.Proofs.YteiafijbgjgiaaaGreat.A
