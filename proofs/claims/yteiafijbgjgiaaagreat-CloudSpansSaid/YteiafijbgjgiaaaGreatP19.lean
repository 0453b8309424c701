/- Walks of the program's functions (printed, made shorter), each with what it computes. -/
import Derived.Test.YteiafijbgjgiaaaGreatP18
namespace Go.Proofs.YteiafijbgjgiaaaGreat.A
set_option maxHeartbeats 8000000
set_option maxRecDepth 100000
open Go.RowKit Go.Proofs.YteiafijbgjgiaaaGreatW.PrintWords Go.Proofs.YteiafijbgjgiaaaGreatW.PrintLast Go.Proofs.YteiafijbgjgiaaaGreatW.PrintMore
attribute [local go_sem] max2_int min2_int max_two min_two max_three min_three max_four min_four
set_option linter.unusedVariables false
set_option linter.unusedSimpArgs false
section
def L_Attenuated.l0:Nat→List (S24)→List (S24)→Int→Int→List Int→List Int→Option ((List (S24))×Int)
  |0,_,_,_,_,_,_=>none
  |k+1,x9,x44,x45,x46,x707000,x707001=>if x46<x45 then(if 0≤x46 then(if x46<(x44.length:Int)then((L_factors_times.f x707000 x707001 ((rd_T24 x44 x46).f0) ((rd_T24 x44 x46).f1)).bind fun bt709=>((L_factors_value.f k bt709.1 bt709.2).bind fun bt715=>(if bt715.2.2=true then(if x9.length<8796093022208 then((L_factors_times.f x707000 x707001 (wrap64 (((rd_T24 x44 x46).f1)-((rd_T24 x44 x46).f0))) ((rd_T24 x44 x46).f1)).bind fun bt722=>(L_Attenuated.l0 k (x9++ [(⟨bt715.1,bt715.2.1⟩:S24)]) x44 x45 (wrap64 (x46+1)) bt722.1 bt722.2))else(none))else(some (([]:List (S24)),8)))))else(none))else(none))else(some (x9,0))
def L_Attenuated.f (k:Nat) (l0:List (S24)) (a1:Int):Option ((List (S24))×Int):=(L_unless.f (decide ((l0.length:Int)>0)) 10).bind fun t690=>((L_unless.f (decide ((l0.length:Int)≤24)) 8).bind fun t691=>((L_first.f k (([t690,t691]:List Int))).bind fun t695=>(if t695=0 then((api_Frac_partErr.f k l0).bind fun bt696=>((L_constantErr.f a1).bind fun t698=>((L_first.f k (([bt696.2,t698]:List Int))).bind fun t702=>(if t702=0 then(L_Attenuated.l0 k ([]:List (S24)) l0 (l0.length:Int) 0 (([a1]:List Int)) ([]:List Int))else(some (([]:List (S24)),t702))))))else(some (([]:List (S24)),t695)))))
theorem L_Attenuated.mono_l:∀ k,(∀ y0 y1 y2 y3 y4 y5,LeO (L_Attenuated.l0 k y0 y1 y2 y3 y4 y5) (L_Attenuated.l0 (k+1) y0 y1 y2 y3 y4 y5))
  |0=>fun _ _ _ _ _ _ r h=>by simp[L_Attenuated.l0]at h
  | k +1=>by
    have ih0:=L_Attenuated.mono_l k
    · intro y0 y1 y2 y3 y4 y5;unfold L_Attenuated.l0
      have m1:=@api_Frac_partErr.mono;have m2:=@L_factors_value.mono;have m3:=@L_first.mono;exact lz
theorem L_Attenuated.mono:∀ a0 a1 k,LeO (L_Attenuated.f k a0 a1) (L_Attenuated.f (k+1) a0 a1):=by
  intro a0 a1 k;have ih0:=L_Attenuated.mono_l k;unfold L_Attenuated.f
  have m1:=@api_Frac_partErr.mono;have m2:=@L_factors_value.mono;have m3:=@L_first.mono;exact lz
theorem L_Attenuated.calls (k:Nat) (A0:Option Addr) (c0:Nat) (l0:List (S24)) (a1:Int) (r1:List (S24)) (r2:Int) (w:World) (hr0:Kd.C k24 w A0 l0.length l0) (hc0:l0.length≤c0) (H:L_Attenuated.f k l0 a1=some (r1,r2)):
    Calls Tryz.prog 26 #[.slice A0 l0.length c0,.int .i64 a1] w fun e w'=>∃ v0_:Value,e= .returned (.tuple #[v0_,.int .i64 r2])∧Kd.R k24 24 w' w.heap.size (fun _=>True) v0_ r1∧Below w.heap.size w w':=by
  have hu112:=Tryz.underlying112;have hu24:=Tryz.underlying24;have HR0:=m0 hr0;have HC0:=m0 hc0;clear hr0 hc0;have HB:=m0 (Below.refl w.heap.size w);unfold L_Attenuated.f at H;replace H:=oa H;obtain⟨t690,A3,H⟩:=H;(try dsimp only at H);replace H:=oa H;obtain⟨t691,A4,H⟩:=H;(try dsimp only at H);obtain⟨y692,hy692⟩:∃ y_:List Int,y_=(([t690,t691]:List Int)):=⟨_,rfl⟩;replace H:((L_first.f k y692).bind fun t695=>(if t695=0 then((api_Frac_partErr.f k l0).bind fun bt696=>((L_constantErr.f a1).bind fun t698=>((L_first.f k (([bt696.2,t698]:List Int))).bind fun t702=>(if t702=0 then(L_Attenuated.l0 k ([]:List (S24)) l0 (l0.length:Int) 0 (([a1]:List Int)) ([]:List Int))else(some (([]:List (S24)),t702))))))else(some (([]:List (S24)),t695))))=some (r1,r2):=hq hy692 H
  have Ny692:=m0 hy692;clear hy692;replace H:=oa H;obtain⟨t695,A5,H⟩:=H;(try dsimp only at H)
  by_cases c6:t695=0
  · rw [if_pos c6] at H;have c6b0:=beq_iff_eq.mpr c6;have c6b1:=bne_eq_false_iff_eq.mpr c6;clear c6;replace H:=oa H;obtain⟨⟨t696,t697⟩,A7,H⟩:=H;(try dsimp only at H);replace H:=oa H;obtain⟨t698,A8,H⟩:=H;(try dsimp only at H);obtain⟨y699,hy699⟩:∃ y_:List Int,y_=(([t697,t698]:List Int)):=⟨_,rfl⟩;replace H:((L_first.f k y699).bind fun t702=>(if t702=0 then(L_Attenuated.l0 k ([]:List (S24)) l0 (l0.length:Int) 0 (([a1]:List Int)) ([]:List Int))else(some (([]:List (S24)),t702))))=some (r1,r2):=hq hy699 H
    have Ny699:=m0 hy699;clear hy699;replace H:=oa H;obtain⟨t702,A9,H⟩:=H;(try dsimp only at H)
    by_cases c10:t702=0
    · rw [if_pos c10]at H;have c10b0:=beq_iff_eq.mpr c10;have c10b1:=bne_eq_false_iff_eq.mpr c10;clear c10;obtain⟨y703,hy703⟩:∃ y_:List Int,y_=(([a1]:List Int)):=⟨_,rfl⟩;replace H:(L_Attenuated.l0 k ([]:List (S24)) l0 (l0.length:Int) 0 y703 ([]:List Int))=some (r1,r2):=hq hy703 H
      have Ny703:=m0 hy703;clear hy703;have H':=m0 H;clear H;go_enter Tryz.func26,Tryz.ntmps26
      go_wp2_with (first|((with_reducible refine gc 49 rfl ?_);refine goesL_ (some 18) rfl rfl Tryz.func49 (by kernel_rfl) rfl #[.bool (decide ((l0.length:Int)>0)),.int .i64 10] rfl (by(try simp only[List.map_toArray,List.map_cons,List.map_nil]);first|done|rfl|(simp only[List.length_drop,List.length_take];rfl)|(simp;first|done|exact⟨rfl,rfl⟩)) ?_;(with_reducible refine(L_unless.calls (decide ((l0.length:Int)>0)) 10 t690 _ A3.out).mono ?_);rintro e w' ⟨rfl,⟨nd,rfl⟩⟩;refine⟨_,rfl,?_⟩)|((with_reducible refine gc 49 rfl ?_);refine gl (some 22) Tryz.func49 #[.bool (decide ((l0.length:Int)≤24)),.int .i64 8] ?_;(with_reducible refine(L_unless.calls (decide ((l0.length:Int)≤24)) 8 t691 _ A4.out).mono ?_);rintro e w' ⟨rfl,⟨nd,rfl⟩⟩;refine⟨_,rfl,?_⟩)|((with_reducible refine ga 23 rfl ?_);refine Kd.R_lit (Kd.int .i64) _ 35 ?hg (N:=23) ?hd (xs:=([t690,t691]:List Int)) (inner:=[.int .i64 t690,.int .i64 t691]) (ok:=fun _=>True) (okp:=fun _=>True) ?hr ?hp (fun _ hk=>hk) trivial (Below.refl _ _) (Nat.le_refl _) (by simp) ?_;(case hd=>rfl);(case hg=>rfl);(case hr=>first|(go_simp;done)|(go_simp;rfl));(case hp=>exact(Reps.one (ki t690) (Reps.one (ki t691) (Reps.none _ _))));intro v693 w11 ho12 hb hg_ hnew_;clear hg_ hnew_;(first|rw[← Ny692.out]at ho12|(simp only[Int.reduceToNat]at ho12;rw[← Ny692.out]at ho12));have HO694:=m0 (Kd.R_lower ho12 (below_size bz));replace HB:=sb HB hb;clear hb ho12;obtain⟨Ao13,co13,eo13⟩:=Kd.R_slice HO694.out;subst eo13)|((with_reducible refine gc 48 rfl ?_);refine gl (some 24) Tryz.func48 #[.slice Ao13 y692.length co13] ?_;(with_reducible refine(L_first.calls k _ _ y692 t695 _ ?side1 ?side2 A5.out).mono ?_);(case side1=>exact bc (Kd.R_reads' HO694.out).2.2);(case side2=>exact(Kd.R_reads' HO694.out).2.1);rintro e w' ⟨rfl,⟨nd,rfl⟩⟩;refine⟨_,rfl,?_⟩;(try(rw[drewN_self w11];generalize hq_:World.drewN w11 _=w11;replace HO694:=gr HO694 hq_;replace HB:=gs HB hq_;clear hq_)))|((with_reducible refine gc 61 rfl ?_);refine gl (some 30) Tryz.func61 #[.slice A0 l0.length c0,.func (.func 56) #[] #[]] ?_;(with_reducible refine(api_Frac_partErr.calls k _ _ l0  t696 t697 _ ?side1 ?side2 A7.out).mono ?_);(case side1=>exact cb HR0 HB);(case side2=>exact HC0.out);rintro e w14 ⟨rfl,hb⟩;refine⟨_,rfl,?_⟩;replace HO694:=rb HO694 hb;replace HB:=sb HB hb;(try clear hb))|((with_reducible refine gc 55 rfl ?_);refine gl (some 35) Tryz.func55 #[.int .i64 a1] ?_;(with_reducible refine(L_constantErr.calls a1 t698 _ A8.out).mono ?_);rintro e w' ⟨rfl,⟨nd,rfl⟩⟩;refine⟨_,rfl,?_⟩;(try(rw[drewN_self w14];generalize hq_:World.drewN w14 _=w14;replace HO694:=gr HO694 hq_;replace HB:=gs HB hq_;clear hq_)))|((with_reducible refine ga 36 rfl ?_);refine Kd.R_lit (Kd.int .i64) _ 35 ?hg (N:=36) ?hd (xs:=([t697,t698]:List Int)) (inner:=[.int .i64 t697,.int .i64 t698]) (ok:=fun _=>True) (okp:=fun _=>True) ?hr ?hp (fun _ hk=>hk) trivial (Below.refl _ _) (Nat.le_refl _) (by simp) ?_;(case hd=>rfl);(case hg=>rfl);(case hr=>first|(go_simp;done)|(go_simp;rfl));(case hp=>exact(Reps.one (ki t697) (Reps.one (ki t698) (Reps.none _ _))));intro v700 w15 ho16 hb hg_ hnew_;clear hg_ hnew_;(first|rw[← Ny699.out]at ho16|(simp only[Int.reduceToNat]at ho16;rw[← Ny699.out]at ho16));have HO701:=m0 (Kd.R_lower (Kd.R_new' ho16 (Kd.R_lt (br HO694.out))) (below_size bz));replace HO694:=m0 (Kd.R_elder' (br HO694.out) (Kd.R_base ho16) hb);replace HB:=sb HB hb;clear hb ho16;obtain⟨Ao17,co17,eo17⟩:=Kd.R_slice HO701.out;subst eo17)|((with_reducible refine gc 48 rfl ?_);refine gl (some 37) Tryz.func48 #[.slice Ao17 y699.length co17] ?_;(with_reducible refine(L_first.calls k _ _ y699 t702 _ ?side1 ?side2 A9.out).mono ?_);(case side1=>exact bc (Kd.R_reads' HO701.out).2.2);(case side2=>exact(Kd.R_reads' HO701.out).2.1);rintro e w' ⟨rfl,⟨nd,rfl⟩⟩;refine⟨_,rfl,?_⟩;(try(rw[drewN_self w15];generalize hq_:World.drewN w15 _=w15;have n0_:Aside0 (Kd.R (Kd.int .i64) 35 w15 w.heap.size (fun k_=>some k_≠(.slice Ao17 y699.length co17:Value).ownBlock) (.slice Ao13 y692.length co13) y692):=⟨by rw[← hq_];exact(rm HO694.out (fun _ hk=>hk.2))⟩;have n1_:Aside0 (Kd.R (Kd.int .i64) 35 w15 w.heap.size (fun k_=>some k_≠(.slice Ao13 y692.length co13:Value).ownBlock) (.slice Ao17 y699.length co17) y699):=⟨by rw[← hq_];exact(rm HO701.out (fun _ hk=>hk.2))⟩;have n2_:=gs HB hq_;clear HO694 HO701 HB hq_;have HO694:=n0_;have HO701:=n1_;have HB:=n2_;clear n0_ n1_ n2_)))|((with_reducible refine ga 42 rfl ?_);refine Kd.R_lit (Kd.int .i64) _ 3 ?hg (N:=42) ?hd (xs:=([a1]:List Int)) (inner:=[.int .i64 a1]) (ok:=fun _=>True) (okp:=fun _=>True) ?hr ?hp (fun _ hk=>hk) trivial (Below.refl _ _) (Nat.le_refl _) (by simp) ?_;(case hd=>rfl);(case hg=>rfl);(case hr=>first|(go_simp;done)|(go_simp;rfl));(case hp=>exact(Reps.one (ki a1) (Reps.none _ _)));intro v704 w18 ho19 hb hg_ hnew_;clear hg_ hnew_;(first|rw[← Ny703.out]at ho19|(simp only[Int.reduceToNat]at ho19;rw[← Ny703.out]at ho19));replace HO694:=rb HO694 hb;replace HO701:=rb HO701 hb;have HO705:=m0 (Kd.R_lower ho19 (below_size bz));replace HB:=sb HB hb;clear hb ho19;obtain⟨Ao20,co20,eo20⟩:=Kd.R_slice HO705.out;subst eo20)|((with_reducible refine ga 10 rfl ?_);refine be 10 112 #[.slice none 0 0,.slice none 0 0] ?_;intro gb706 hg w21 hbox hb;replace HO694:=rb HO694 hb;replace HO701:=rb HO701 hb;replace HO705:=rb HO705 hb;have BK706:=m0 hbox;have GE706:=gw w hg;replace HB:=sb HB hb;clear hb hbox hg;obtain⟨hcz22_0,hcz22_1,hfz22_0,hfz22_1⟩:=b2 BK706))
      (try simp only[Act.put,List.setIfInBounds_toArray,List.set_cons_zero,List.set_cons_succ])
      go_loopg [9,46] k (fun kq v9 v46 w'=>∃ (x9_1:List (S24)) (x46_1:Int) (x707000_1:List Int) (x707001_1:List Int) (u707000:Value) (u707001:Value),v46= .int .i64 x46_1∧Aside0 (L_Attenuated.l0 kq x9_1 l0 (l0.length:Int) x46_1 x707000_1 x707001_1=some (r1,r2))∧Aside0 (kq≤k)∧Aside0 (Kd.R k24 24 w' w.heap.size (fun _=>True) v9 x9_1)∧Aside0 (Kd.R (Kd.int .i64) 3 w' w.heap.size (fun k_=>some k_≠(u707001:Value).ownBlock) u707000 x707000_1)∧Aside0 (Kd.R (Kd.int .i64) 3 w' w.heap.size (fun k_=>some k_≠(u707000:Value).ownBlock) u707001 x707001_1)∧Aside0 (w'.heap[gb706]?=some (.cells #[u707000,u707001] 112 (0,0)))∧Aside0 (Below w.heap.size w w'))
      case atStart=>exact⟨(([]:List (S24))),(0),(y703),(([]:List Int)),(.slice Ao20 y703.length co20),(.slice none 0 0),rz,H',⟨Nat.le_refl _⟩,⟨by first|exact Kd.R_nil _ _ _ _ _|exact Kd.N_nil _ _ _ _ _|exact Kd.V_nil _ _ _ _ _|exact Kd.Q_nil _ _ _ _ _|exact Kd.S_nil _ _ _ _ _⟩,⟨by (with_reducible repeat(first|apply Kd.R_alloc|apply Kd.R_drewN|apply Kd.R_drew));exact Kd.R_mono (rf (rf (Kd.R_types HO705.out BK706.out (by decide)) (·.2)) (·.2)) (fun _ hk=>(by simp[Value.ownBlock]))⟩,⟨by first|exact Kd.R_nil _ _ _ _ _|exact Kd.N_nil _ _ _ _ _|exact Kd.V_nil _ _ _ _ _|exact Kd.Q_nil _ _ _ _ _|exact Kd.S_nil _ _ _ _ _⟩,⟨bq BK706.out⟩,⟨bz⟩⟩
      case round =>
        clear H'
        try clear hcz22_0
        try clear hcz22_1
        try clear hfz22_0
        try clear hfz22_1
        obtain⟨x9_1,x46_1,x707000_1,x707001_1,u707000,u707001,rfl,HA,HK1,HO_9,HO_707000,HO_707001,BK706,HB⟩:=hrel
        cases gk with
        |zero=>exact absurd HA.out (by simp[L_Attenuated.l0])
        | succ k1 =>
          have H:=HA.out;clear HA;simp only[L_Attenuated.l0]at H
          by_cases c23:x46_1<(l0.length:Int)
          · rw [if_pos c23]at H;have c23b0:=decide_eq_true c23;clear c23
            by_cases c24:0≤x46_1
            · rw [if_pos c24]at H;have c24b0:=decide_eq_true c24;clear c24
              by_cases c25:x46_1<(l0.length:Int)
              · rw [if_pos c25]at H;have c25b0:=decide_eq_true c25;clear c25;replace H:=oa H;obtain⟨⟨t709,t712⟩,A26,H⟩:=H;(try dsimp only at H);replace H:=oa H;obtain⟨⟨t715,t716,t717⟩,A27,H⟩:=H;(try dsimp only at H)
                by_cases c28:t717=true
                · subst c28;rw[if_pos rfl]at H
                  by_cases c29:x9_1.length<8796093022208
                  · rw[if_pos c29]at H;have LMc29:=m0 c29;clear c29;obtain⟨y719,hy719⟩:∃ y_:List (S24),y_=(x9_1++ [(⟨t715,t716⟩:S24)]):=⟨_,rfl⟩;replace H:((L_factors_times.f x707000_1 x707001_1 (wrap64 (((rd_T24 l0 x46_1).f1)-((rd_T24 l0 x46_1).f0))) ((rd_T24 l0 x46_1).f1)).bind fun bt722=>(L_Attenuated.l0 k1 y719 l0 (l0.length:Int) (wrap64 (x46_1+1)) bt722.1 bt722.2))=some (r1,r2):=hq hy719 H
                    have Ny719:=m0 hy719;clear hy719;replace H:=oa H;obtain⟨⟨t722,t725⟩,A30,H⟩:=H;(try dsimp only at H);have H':=m0 H;clear H;have p707:0≤(x46_1:Int):=od;have q707:x46_1<(l0.length:Int):=od;obtain⟨ad707,e707,hx707_0,hx707_1⟩:=at_T24 HR0.out x46_1 p707 q707
                    cases e707
                    replace hx707_0:=hc HB hx707_0;replace hx707_1:=hc HB hx707_1;replace p707:=eq_true p707;replace q707:=eq_true q707
                    go_wp2_with (first|((with_reducible refine ga 12 rfl ?_);refine be 12 24 #[.int .i64 0,.int .i64 0] ?_;intro gb708 hg w31 hbox hb;replace HO_9:=m0 (Kd.R_below (Kd.R_elderB (br HO_9.out) gb708 (Nat.le_of_eq hg.symm)) hb);replace HO_707000:=rb HO_707000 hb;replace HO_707001:=rb HO_707001 hb;have BK708:=m0 hbox;have GE708:=gw w hg;replace HB:=sb HB hb;have NB706_708:=nl BK706 hg;have NB708_706:=ng (nl BK706 hg);replace BK706:=bb BK706 hb;clear hb hbox hg;have hnb32:=NB708_706.out;have hnc32:=NB706_708.out;obtain⟨_,_,_,_⟩:=b2 BK708;obtain⟨_,_,_,_⟩:=b2 BK706;obtain⟨Ao35,co35,eo35⟩:=Kd.R_slice HO_707000.out;subst eo35;obtain⟨Ao36,co36,eo36⟩:=Kd.R_slice HO_707001.out;subst eo36)|((with_reducible refine gc 62 rfl ?_);refine gl (some 56) Tryz.func62 #[.agg #[.slice Ao35 x707000_1.length co35,.slice Ao36 x707001_1.length co36],.int .i64 ((rd_T24 l0 x46_1).f0),.int .i64 ((rd_T24 l0 x46_1).f1)] ?_;(with_reducible refine(L_factors_times.calls _ _ x707000_1 _ _ x707001_1 ((rd_T24 l0 x46_1).f0) ((rd_T24 l0 x46_1).f1) t709 t712 _ ?side1 ?side2 ?side3 ?side4 A26.out).mono ?_);(case side1=>refine(Kd.R_reads' (e:=3) (base:=w.heap.size) (ok:=fun k_=>some k_≠(.slice Ao36 x707001_1.length co36:Value).ownBlock) (n:=x707000_1.length) (c:=co35) ?_).2.2;exact(by(with_reducible repeat(first|apply Kd.R_alloc|apply Kd.R_drewN|apply Kd.R_drew));exact(Kd.R_mono (rf (rf (Kd.R_types HO_707000.out BK708.out (by decide)) (·.2)) (·.2)) (fun _ h_=>h_.1))));(case side2=>exact(Kd.R_reads' HO_707000.out).2.1);(case side3=>refine(Kd.R_reads' (e:=3) (base:=w.heap.size) (ok:=fun k_=>some k_≠(.slice Ao35 x707000_1.length co35:Value).ownBlock) (n:=x707001_1.length) (c:=co36) ?_).2.2;exact(by(with_reducible repeat(first|apply Kd.R_alloc|apply Kd.R_drewN|apply Kd.R_drew));exact(Kd.R_mono (rf (rf (Kd.R_types HO_707001.out BK708.out (by decide)) (·.2)) (·.2)) (fun _ h_=>h_.1))));(case side4=>exact(Kd.R_reads' HO_707001.out).2.1);rintro e w37 ⟨v710,v713,rfl,ho0,ho1,hb⟩;refine⟨_,rfl,?_⟩;replace HO_9:=m0 (Kd.R_below (by(with_reducible repeat(first|apply Kd.R_alloc|apply Kd.R_drewN|apply Kd.R_drew));exact(Kd.R_mono (rf (rf (rn gb708 HO_9.out (·.2)) (·.2)) (·.2)) (fun _ h_=>h_.1))) hb);have HO711:=m0 (Kd.R_lower (Kd.R_new' (Kd.R_new' ho0 (Kd.R_lt (by(with_reducible repeat(first|apply Kd.R_alloc|apply Kd.R_drewN|apply Kd.R_drew));exact(Kd.R_mono (rf (rf (Kd.R_types HO_707000.out BK708.out (by decide)) (·.2)) (·.2)) (fun _ h_=>h_.1))))) (Kd.R_lt (by(with_reducible repeat(first|apply Kd.R_alloc|apply Kd.R_drewN|apply Kd.R_drew));exact(Kd.R_mono (rf (rf (Kd.R_types HO_707001.out BK708.out (by decide)) (·.2)) (·.2)) (fun _ h_=>h_.1))))) (below_size bz));have HO714:=m0 (Kd.R_lower (Kd.R_new' (Kd.R_new' ho1 (Kd.R_lt (by(with_reducible repeat(first|apply Kd.R_alloc|apply Kd.R_drewN|apply Kd.R_drew));exact(Kd.R_mono (rf (rf (Kd.R_types HO_707000.out BK708.out (by decide)) (·.2)) (·.2)) (fun _ h_=>h_.1))))) (Kd.R_lt (by(with_reducible repeat(first|apply Kd.R_alloc|apply Kd.R_drewN|apply Kd.R_drew));exact(Kd.R_mono (rf (rf (Kd.R_types HO_707001.out BK708.out (by decide)) (·.2)) (·.2)) (fun _ h_=>h_.1))))) (below_size bz));replace HO_707000:=m0 (Kd.R_mono (Kd.R_told (Kd.R_told (Kd.R_old (by(with_reducible repeat(first|apply Kd.R_alloc|apply Kd.R_drewN|apply Kd.R_drew));exact(Kd.R_mono (rf (rf (Kd.R_types HO_707000.out BK708.out (by decide)) (·.2)) (·.2)) (fun _ h_=>h_.1))) hb) (Kd.R_base ho0)) (Kd.R_base ho1)) (fun _ h_=>h_.1));replace HO_707001:=m0 (Kd.R_mono (Kd.R_told (Kd.R_told (Kd.R_old (by(with_reducible repeat(first|apply Kd.R_alloc|apply Kd.R_drewN|apply Kd.R_drew));exact(Kd.R_mono (rf (rf (Kd.R_types HO_707001.out BK708.out (by decide)) (·.2)) (·.2)) (fun _ h_=>h_.1))) hb) (Kd.R_base ho0)) (Kd.R_base ho1)) (fun _ h_=>h_.1));replace BK706:=m0 (blk_below (g:=gb706) (o:= .cells #[.slice Ao35 x707000_1.length co35,.slice Ao36 x707001_1.length co36] 112 (0,0)) (bq BK706.out) hb);replace BK708:=m0 (blk_below (g:=gb708) (o:= .cells #[.int .i64 ((rd_T24 l0 x46_1).f0),.int .i64 ((rd_T24 l0 x46_1).f1)] 24 (0,0)) (bq BK708.out) hb);replace HB:=sb HB hb;(try clear hb);(try clear ho0);(try clear ho1);obtain⟨Ao38,co38,eo38⟩:=Kd.R_slice HO711.out;subst eo38;obtain⟨Ao39,co39,eo39⟩:=Kd.R_slice HO714.out;subst eo39)|((with_reducible refine gc 63 rfl ?_);refine gl (some 57) Tryz.func63 #[.agg #[.slice Ao38 t709.length co38,.slice Ao39 t712.length co39]] ?_;(with_reducible refine(L_factors_value.calls k1 _ _ t709 _ _ t712 t715 t716 true _ ?side1 ?side2 ?side3 ?side4 A27.out).mono ?_);(case side1=>exact bc (Kd.R_reads' HO711.out).2.2);(case side2=>exact(Kd.R_reads' HO711.out).2.1);(case side3=>exact bc (Kd.R_reads' HO714.out).2.2);(case side4=>exact(Kd.R_reads' HO714.out).2.1);rintro e w40 ⟨rfl,hb⟩;refine⟨_,rfl,?_⟩;replace HO_9:=rb HO_9 hb;replace HO_707000:=rb HO_707000 hb;replace HO_707001:=rb HO_707001 hb;replace HO711:=rb HO711 hb;replace HO714:=rb HO714 hb;replace BK706:=bb BK706 hb;replace BK708:=bb BK708 hb;replace HB:=sb HB hb;(try clear hb))|((with_reducible refine ga 13 rfl ?_);refine be 13 24 #[.int .i64 0,.int .i64 0] ?_;intro gb718 hg w41 hbox hb;replace HO_9:=m0 (Kd.R_below (Kd.R_elderB (br HO_9.out) gb718 (Nat.le_of_eq hg.symm)) hb);replace HO_707000:=rb HO_707000 hb;replace HO_707001:=rb HO_707001 hb;replace HO711:=rb HO711 hb;replace HO714:=rb HO714 hb;have BK718:=m0 hbox;have GE718:=gw w hg;replace HB:=sb HB hb;have NB706_718:=nl BK706 hg;have NB718_706:=ng (nl BK706 hg);replace BK706:=bb BK706 hb;have NB708_718:=nl BK708 hg;have NB718_708:=ng (nl BK708 hg);replace BK708:=bb BK708 hb;clear hb hbox hg;have hnb42:=NB718_706.out;have hnc42:=NB706_718.out;have hnb43:=NB718_708.out;have hnc43:=NB708_718.out;obtain⟨_,_,_,_⟩:=b2 BK718)|((with_reducible refine gate_builtin (b:= .append) (xs:= #[.tmp 62,.tmp 64]) rfl ?_);at_builtin;refine Kd.R_append k24 (w0:=w) w.heap.size rfl (.tmp 62) (.tmp 64) 57 24 (.agg #[(.int .i64 0),(.int .i64 0)]) 16 rfl Tryz.underlying57 info24 rfl (by decide) (by omega) u9 x9_1 (⟨t715,t716⟩:S24) [.int .i64 t715,.int .i64 t716] (fun k_=>k_≠gb708∧k_≠gb718) (fun _=>False) rfl (by first|(go_simp;done)|(go_simp;rfl)) ?aP (fun _ hk=>hk.elim) ?aF ?aO ?aB ?aS ?aL ?_;(case aP=>exact k24_mkM _ _ _ (⟨t715,t716⟩:S24));(case aB=>exact bz);(case aF=>exact(fun k_ hk=>⟨Kd.freshB (g:=gb708) (o:= .cells #[.int .i64 ((rd_T24 l0 x46_1).f0),.int .i64 ((rd_T24 l0 x46_1).f1)] 24 (0,0)) (bq BK708.out) k_ hk,Kd.freshB (g:=gb718) (o:= .cells #[.int .i64 t715,.int .i64 t716] 24 (0,0)) (bq BK718.out) k_ hk⟩));(case aO=>exact(rm (rf (rf (rn gb718 HO_9.out (·.2)) (·.2)) (·.2)) (fun _ hk=>⟨hk.1.1.2,hk.1.2⟩)));(case aS=>exact(below_size bz));(case aL=>have:=LMc29.out;omega);intro v720 w45 ho hb hg hat;rw[← Ny719.out]at ho;have n0_:=m0 (Kd.R_over' (by(with_reducible repeat(first|apply Kd.R_alloc|apply Kd.R_drewN|apply Kd.R_drew));exact(Kd.R_mono (rf (rf (Kd.R_types HO_707000.out BK718.out (by decide)) (·.2)) (·.2)) (fun _ h_=>h_.1))) (Kd.R_typed (by(with_reducible repeat(first|apply Kd.R_alloc|apply Kd.R_drewN|apply Kd.R_drew));exact(Kd.R_mono (rf (rf (rn gb718 HO_9.out (·.2)) (·.2)) (·.2)) (fun _ h_=>h_.1)))) (by decide) hg);have n1_:=m0 (Kd.R_over' (by(with_reducible repeat(first|apply Kd.R_alloc|apply Kd.R_drewN|apply Kd.R_drew));exact(Kd.R_mono (rf (rf (Kd.R_types HO_707001.out BK718.out (by decide)) (·.2)) (·.2)) (fun _ h_=>h_.1))) (Kd.R_typed (by(with_reducible repeat(first|apply Kd.R_alloc|apply Kd.R_drewN|apply Kd.R_drew));exact(Kd.R_mono (rf (rf (rn gb718 HO_9.out (·.2)) (·.2)) (·.2)) (fun _ h_=>h_.1)))) (by decide) hg);have n2_:=m0 (blk_grown (g:=gb706) (o:= .cells #[.slice Ao35 x707000_1.length co35,.slice Ao36 x707001_1.length co36] 112 (0,0)) (bq BK706.out) hg (Kd.R_ne HO_9.out BK706.out (by decide)));have n3_:=m0 (blk_grown (g:=gb708) (o:= .cells #[.int .i64 ((rd_T24 l0 x46_1).f0),.int .i64 ((rd_T24 l0 x46_1).f1)] 24 (0,0)) (bq BK708.out) hg (Kd.R_away HO_9.out (fun _ hk=>hk.1.2)));have n4_:=m0 (Kd.R_over' (by(with_reducible repeat(first|apply Kd.R_alloc|apply Kd.R_drewN|apply Kd.R_drew));exact(Kd.R_mono (rf (rf (Kd.R_types HO711.out BK718.out (by decide)) (·.2)) (·.2)) (fun _ h_=>h_.1))) (Kd.R_typed (by(with_reducible repeat(first|apply Kd.R_alloc|apply Kd.R_drewN|apply Kd.R_drew));exact(Kd.R_mono (rf (rf (rn gb718 HO_9.out (·.2)) (·.2)) (·.2)) (fun _ h_=>h_.1)))) (by decide) hg);have n5_:=m0 (Kd.R_over' (by(with_reducible repeat(first|apply Kd.R_alloc|apply Kd.R_drewN|apply Kd.R_drew));exact(Kd.R_mono (rf (rf (Kd.R_types HO714.out BK718.out (by decide)) (·.2)) (·.2)) (fun _ h_=>h_.1))) (Kd.R_typed (by(with_reducible repeat(first|apply Kd.R_alloc|apply Kd.R_drewN|apply Kd.R_drew));exact(Kd.R_mono (rf (rf (rn gb718 HO_9.out (·.2)) (·.2)) (·.2)) (fun _ h_=>h_.1)))) (by decide) hg);have n6_:=m0 (blk_grown (g:=gb718) (o:= .cells #[.int .i64 t715,.int .i64 t716] 24 (0,0)) (bq BK718.out) hg (Kd.R_away HO_9.out (fun _ hk=>hk.2)));have n7_:=m0 (hb);have n8_:=m0 (ho);clear HO_707000 HO_707001 BK706 BK708 HO711 HO714 BK718 HB HO_9;have HO_707000:=n0_;have HO_707001:=n1_;have BK706:=n2_;have BK708:=n3_;have HO711:=n4_;have HO714:=n5_;have BK718:=n6_;have HB:=n7_;have HO721:=n8_;clear n0_ n1_ n2_ n3_ n4_ n5_ n6_ n7_ n8_;clear ho hb hg hat;obtain⟨_,_,_,_⟩:=b2 BK706;obtain⟨_,_,_,_⟩:=b2 BK708)|((with_reducible refine gc 62 rfl ?_);refine gl (some 74) Tryz.func62 #[.agg #[.slice Ao35 x707000_1.length co35,.slice Ao36 x707001_1.length co36],.int .i64 (wrap64 (((rd_T24 l0 x46_1).f1)-((rd_T24 l0 x46_1).f0))),.int .i64 ((rd_T24 l0 x46_1).f1)] ?_;(with_reducible refine(L_factors_times.calls _ _ x707000_1 _ _ x707001_1 (wrap64 (((rd_T24 l0 x46_1).f1)-((rd_T24 l0 x46_1).f0))) ((rd_T24 l0 x46_1).f1) t722 t725 _ ?side1 ?side2 ?side3 ?side4 A30.out).mono ?_);(case side1=>exact bc (Kd.R_reads' HO_707000.out).2.2);(case side2=>exact(Kd.R_reads' HO_707000.out).2.1);(case side3=>exact bc (Kd.R_reads' HO_707001.out).2.2);(case side4=>exact(Kd.R_reads' HO_707001.out).2.1);rintro e w48 ⟨v723,v726,rfl,ho0,ho1,hb⟩;refine⟨_,rfl,?_⟩;replace HO721:=rb HO721 hb;have HO724:=m0 (Kd.R_lower (Kd.R_new' (Kd.R_new' (Kd.R_new' (Kd.R_new' ho0 (Kd.R_lt (br HO_707000.out))) (Kd.R_lt (br HO_707001.out))) (Kd.R_lt (br HO711.out))) (Kd.R_lt (br HO714.out))) (below_size bz));have HO727:=m0 (Kd.R_lower (Kd.R_new' (Kd.R_new' (Kd.R_new' (Kd.R_new' ho1 (Kd.R_lt (br HO_707000.out))) (Kd.R_lt (br HO_707001.out))) (Kd.R_lt (br HO711.out))) (Kd.R_lt (br HO714.out))) (below_size bz));replace HO_707000:=m0 (Kd.R_mono (Kd.R_told (Kd.R_told (Kd.R_old (br HO_707000.out) hb) (Kd.R_base ho0)) (Kd.R_base ho1)) (fun _ h_=>h_.1));replace HO_707001:=m0 (Kd.R_mono (Kd.R_told (Kd.R_told (Kd.R_old (br HO_707001.out) hb) (Kd.R_base ho0)) (Kd.R_base ho1)) (fun _ h_=>h_.1));replace HO711:=m0 (Kd.R_mono (Kd.R_told (Kd.R_told (Kd.R_old (br HO711.out) hb) (Kd.R_base ho0)) (Kd.R_base ho1)) (fun _ h_=>h_.1));replace HO714:=m0 (Kd.R_mono (Kd.R_told (Kd.R_told (Kd.R_old (br HO714.out) hb) (Kd.R_base ho0)) (Kd.R_base ho1)) (fun _ h_=>h_.1));replace BK706:=bb BK706 hb;replace BK708:=bb BK708 hb;replace BK718:=bb BK718 hb;replace HB:=sb HB hb;(try clear hb);(try clear ho0);(try clear ho1);obtain⟨Ao49,co49,eo49⟩:=Kd.R_slice HO724.out;subst eo49;obtain⟨_,_,_,_⟩:=b2 BK706;obtain⟨Ao51,co51,eo51⟩:=Kd.R_slice HO727.out;subst eo51))
                    go_roundg k1
                    case measure=>have:=HK1.out;omega
                    case rel=>exact⟨(y719),(wrap64 (x46_1+1)),(t722),(t725),(.slice Ao49 t722.length co49),(.slice Ao51 t725.length co51),rz,H',⟨by have:=HK1.out;omega⟩,⟨by (with_reducible repeat(first|apply Kd.R_alloc|apply Kd.R_drewN|apply Kd.R_drew));exact Kd.R_mono (rf (rf (Kd.R_types HO721.out BK706.out (by decide)) (·.2)) (·.2)) (fun _ hk=>trivial)⟩,⟨by (with_reducible repeat(first|apply Kd.R_alloc|apply Kd.R_drewN|apply Kd.R_drew));exact Kd.R_mono (rf (rf (Kd.R_types HO724.out BK706.out (by decide)) (·.2)) (·.2)) (fun _ hk=>hk.1.1.1.1.1)⟩,⟨by (with_reducible repeat(first|apply Kd.R_alloc|apply Kd.R_drewN|apply Kd.R_drew));exact Kd.R_mono (rf (rf (Kd.R_types HO727.out BK706.out (by decide)) (·.2)) (·.2)) (fun _ hk=>hk.1.1.1.1.1)⟩,⟨bq BK706.out⟩,⟨bz⟩⟩
                  · rw[if_neg c29]at H;exact absurd H (by simp)
                · replace c28:=Bool.eq_false_iff.mpr c28;subst c28;rw[if_neg (show ¬ (false=true) by decide)]at H;simp only[Option.some.injEq,Prod.mk.injEq]at H;obtain⟨rfl,rfl⟩:=H;have p707:0≤(x46_1:Int):=od;have q707:x46_1<(l0.length:Int):=od;obtain⟨ad707,e707,hx707_0,hx707_1⟩:=at_T24 HR0.out x46_1 p707 q707
                  cases e707
                  replace hx707_0:=hc HB hx707_0;replace hx707_1:=hc HB hx707_1;replace p707:=eq_true p707;replace q707:=eq_true q707
                  go_wp2_with (first|((with_reducible refine ga 12 rfl ?_);refine be 12 24 #[.int .i64 0,.int .i64 0] ?_;intro gb708 hg w52 hbox hb;replace HO_9:=m0 (Kd.R_below (Kd.R_elderB (br HO_9.out) gb708 (Nat.le_of_eq hg.symm)) hb);replace HO_707000:=rb HO_707000 hb;replace HO_707001:=rb HO_707001 hb;have BK708:=m0 hbox;have GE708:=gw w hg;replace HB:=sb HB hb;have NB706_708:=nl BK706 hg;have NB708_706:=ng (nl BK706 hg);replace BK706:=bb BK706 hb;clear hb hbox hg;have hnb53:=NB708_706.out;have hnc53:=NB706_708.out;obtain⟨_,_,_,_⟩:=b2 BK708;obtain⟨_,_,_,_⟩:=b2 BK706;obtain⟨Ao56,co56,eo56⟩:=Kd.R_slice HO_707000.out;subst eo56;obtain⟨Ao57,co57,eo57⟩:=Kd.R_slice HO_707001.out;subst eo57)|((with_reducible refine gc 62 rfl ?_);refine gl (some 56) Tryz.func62 #[.agg #[.slice Ao56 x707000_1.length co56,.slice Ao57 x707001_1.length co57],.int .i64 ((rd_T24 l0 x46_1).f0),.int .i64 ((rd_T24 l0 x46_1).f1)] ?_;(with_reducible refine(L_factors_times.calls _ _ x707000_1 _ _ x707001_1 ((rd_T24 l0 x46_1).f0) ((rd_T24 l0 x46_1).f1) t709 t712 _ ?side1 ?side2 ?side3 ?side4 A26.out).mono ?_);(case side1=>refine(Kd.R_reads' (e:=3) (base:=w.heap.size) (ok:=fun k_=>some k_≠(.slice Ao57 x707001_1.length co57:Value).ownBlock) (n:=x707000_1.length) (c:=co56) ?_).2.2;exact(by(with_reducible repeat(first|apply Kd.R_alloc|apply Kd.R_drewN|apply Kd.R_drew));exact(Kd.R_mono (rf (rf (Kd.R_types HO_707000.out BK708.out (by decide)) (·.2)) (·.2)) (fun _ h_=>h_.1))));(case side2=>exact(Kd.R_reads' HO_707000.out).2.1);(case side3=>refine(Kd.R_reads' (e:=3) (base:=w.heap.size) (ok:=fun k_=>some k_≠(.slice Ao56 x707000_1.length co56:Value).ownBlock) (n:=x707001_1.length) (c:=co57) ?_).2.2;exact(by(with_reducible repeat(first|apply Kd.R_alloc|apply Kd.R_drewN|apply Kd.R_drew));exact(Kd.R_mono (rf (rf (Kd.R_types HO_707001.out BK708.out (by decide)) (·.2)) (·.2)) (fun _ h_=>h_.1))));(case side4=>exact(Kd.R_reads' HO_707001.out).2.1);rintro e w58 ⟨v710,v713,rfl,ho0,ho1,hb⟩;refine⟨_,rfl,?_⟩;replace HO_9:=m0 (Kd.R_below (by(with_reducible repeat(first|apply Kd.R_alloc|apply Kd.R_drewN|apply Kd.R_drew));exact(Kd.R_mono (rf (rf (rn gb708 HO_9.out (·.2)) (·.2)) (·.2)) (fun _ h_=>h_.1))) hb);have HO711:=m0 (Kd.R_lower (Kd.R_new' (Kd.R_new' ho0 (Kd.R_lt (by(with_reducible repeat(first|apply Kd.R_alloc|apply Kd.R_drewN|apply Kd.R_drew));exact(Kd.R_mono (rf (rf (Kd.R_types HO_707000.out BK708.out (by decide)) (·.2)) (·.2)) (fun _ h_=>h_.1))))) (Kd.R_lt (by(with_reducible repeat(first|apply Kd.R_alloc|apply Kd.R_drewN|apply Kd.R_drew));exact(Kd.R_mono (rf (rf (Kd.R_types HO_707001.out BK708.out (by decide)) (·.2)) (·.2)) (fun _ h_=>h_.1))))) (below_size bz));have HO714:=m0 (Kd.R_lower (Kd.R_new' (Kd.R_new' ho1 (Kd.R_lt (by(with_reducible repeat(first|apply Kd.R_alloc|apply Kd.R_drewN|apply Kd.R_drew));exact(Kd.R_mono (rf (rf (Kd.R_types HO_707000.out BK708.out (by decide)) (·.2)) (·.2)) (fun _ h_=>h_.1))))) (Kd.R_lt (by(with_reducible repeat(first|apply Kd.R_alloc|apply Kd.R_drewN|apply Kd.R_drew));exact(Kd.R_mono (rf (rf (Kd.R_types HO_707001.out BK708.out (by decide)) (·.2)) (·.2)) (fun _ h_=>h_.1))))) (below_size bz));replace HO_707000:=m0 (Kd.R_mono (Kd.R_told (Kd.R_told (Kd.R_old (by(with_reducible repeat(first|apply Kd.R_alloc|apply Kd.R_drewN|apply Kd.R_drew));exact(Kd.R_mono (rf (rf (Kd.R_types HO_707000.out BK708.out (by decide)) (·.2)) (·.2)) (fun _ h_=>h_.1))) hb) (Kd.R_base ho0)) (Kd.R_base ho1)) (fun _ h_=>h_.1));replace HO_707001:=m0 (Kd.R_mono (Kd.R_told (Kd.R_told (Kd.R_old (by(with_reducible repeat(first|apply Kd.R_alloc|apply Kd.R_drewN|apply Kd.R_drew));exact(Kd.R_mono (rf (rf (Kd.R_types HO_707001.out BK708.out (by decide)) (·.2)) (·.2)) (fun _ h_=>h_.1))) hb) (Kd.R_base ho0)) (Kd.R_base ho1)) (fun _ h_=>h_.1));replace BK706:=m0 (blk_below (g:=gb706) (o:= .cells #[.slice Ao56 x707000_1.length co56,.slice Ao57 x707001_1.length co57] 112 (0,0)) (bq BK706.out) hb);replace BK708:=m0 (blk_below (g:=gb708) (o:= .cells #[.int .i64 ((rd_T24 l0 x46_1).f0),.int .i64 ((rd_T24 l0 x46_1).f1)] 24 (0,0)) (bq BK708.out) hb);replace HB:=sb HB hb;(try clear hb);(try clear ho0);(try clear ho1);obtain⟨Ao59,co59,eo59⟩:=Kd.R_slice HO711.out;subst eo59;obtain⟨Ao60,co60,eo60⟩:=Kd.R_slice HO714.out;subst eo60)|((with_reducible refine gc 63 rfl ?_);refine gl (some 57) Tryz.func63 #[.agg #[.slice Ao59 t709.length co59,.slice Ao60 t712.length co60]] ?_;(with_reducible refine(L_factors_value.calls k1 _ _ t709 _ _ t712 t715 t716 false _ ?side1 ?side2 ?side3 ?side4 A27.out).mono ?_);(case side1=>exact bc (Kd.R_reads' HO711.out).2.2);(case side2=>exact(Kd.R_reads' HO711.out).2.1);(case side3=>exact bc (Kd.R_reads' HO714.out).2.2);(case side4=>exact(Kd.R_reads' HO714.out).2.1);rintro e w61 ⟨rfl,hb⟩;refine⟨_,rfl,?_⟩;replace HO_9:=rb HO_9 hb;replace HO_707000:=rb HO_707000 hb;replace HO_707001:=rb HO_707001 hb;replace HO711:=rb HO711 hb;replace HO714:=rb HO714 hb;replace BK706:=bb BK706 hb;replace BK708:=bb BK708 hb;replace HB:=sb HB hb;(try clear hb))|((with_reducible refine ga 13 rfl ?_);refine be 13 24 #[.int .i64 0,.int .i64 0] ?_;intro gb718 hg w62 hbox hb;replace HO_9:=m0 (Kd.R_below (Kd.R_elderB (br HO_9.out) gb718 (Nat.le_of_eq hg.symm)) hb);replace HO_707000:=rb HO_707000 hb;replace HO_707001:=rb HO_707001 hb;replace HO711:=rb HO711 hb;replace HO714:=rb HO714 hb;have BK718:=m0 hbox;have GE718:=gw w hg;replace HB:=sb HB hb;have NB706_718:=nl BK706 hg;have NB718_706:=ng (nl BK706 hg);replace BK706:=bb BK706 hb;have NB708_718:=nl BK708 hg;have NB718_708:=ng (nl BK708 hg);replace BK708:=bb BK708 hb;clear hb hbox hg;have hnb63:=NB718_706.out;have hnc63:=NB706_718.out;have hnb64:=NB718_708.out;have hnc64:=NB708_718.out;obtain⟨_,_,_,_⟩:=b2 BK718))
                  go_ret2
                  exact⟨_,e4,by first|exact Kd.R_nil _ _ _ _ _|exact Kd.N_nil _ _ _ _ _|exact Kd.V_nil _ _ _ _ _|exact Kd.Q_nil _ _ _ _ _|exact Kd.S_nil _ _ _ _ _,bz⟩
              · rw[if_neg c25]at H;exact absurd H (by simp)
            · rw[if_neg c24]at H;exact absurd H (by simp)
          · rw[if_neg c23]at H;have c23b0:=decide_eq_false c23;clear c23;simp only[Option.some.injEq,Prod.mk.injEq]at H;obtain⟨rfl,rfl⟩:=H
            go_wp2
            go_ret2
            exact⟨_,e4,by(with_reducible repeat(first|apply Kd.R_alloc|apply Kd.R_drewN|apply Kd.R_drew));exact HO_9.out,bz⟩
    · rw[if_neg c10]at H;have c10b0:=beq_eq_false_iff_ne.mpr c10;have c10b1:=bne_iff_ne.mpr c10;simp only[Option.some.injEq,Prod.mk.injEq]at H;obtain⟨rfl,rfl⟩:=H;go_enter Tryz.func26,Tryz.ntmps26
      go_wp2_with (first|((with_reducible refine gc 49 rfl ?_);refine goesL_ (some 18) rfl rfl Tryz.func49 (by kernel_rfl) rfl #[.bool (decide ((l0.length:Int)>0)),.int .i64 10] rfl (by(try simp only[List.map_toArray,List.map_cons,List.map_nil]);first|done|rfl|(simp only[List.length_drop,List.length_take];rfl)|(simp;first|done|exact⟨rfl,rfl⟩)) ?_;(with_reducible refine(L_unless.calls (decide ((l0.length:Int)>0)) 10 t690 _ A3.out).mono ?_);rintro e w' ⟨rfl,⟨nd,rfl⟩⟩;refine⟨_,rfl,?_⟩)|((with_reducible refine gc 49 rfl ?_);refine gl (some 22) Tryz.func49 #[.bool (decide ((l0.length:Int)≤24)),.int .i64 8] ?_;(with_reducible refine(L_unless.calls (decide ((l0.length:Int)≤24)) 8 t691 _ A4.out).mono ?_);rintro e w' ⟨rfl,⟨nd,rfl⟩⟩;refine⟨_,rfl,?_⟩)|((with_reducible refine ga 23 rfl ?_);refine Kd.R_lit (Kd.int .i64) _ 35 ?hg (N:=23) ?hd (xs:=([t690,t691]:List Int)) (inner:=[.int .i64 t690,.int .i64 t691]) (ok:=fun _=>True) (okp:=fun _=>True) ?hr ?hp (fun _ hk=>hk) trivial (Below.refl _ _) (Nat.le_refl _) (by simp) ?_;(case hd=>rfl);(case hg=>rfl);(case hr=>first|(go_simp;done)|(go_simp;rfl));(case hp=>exact(Reps.one (ki t690) (Reps.one (ki t691) (Reps.none _ _))));intro v693 w66 ho67 hb hg_ hnew_;clear hg_ hnew_;(first|rw[← Ny692.out]at ho67|(simp only[Int.reduceToNat]at ho67;rw[← Ny692.out]at ho67));have HO694:=m0 (Kd.R_lower ho67 (below_size bz));replace HB:=sb HB hb;clear hb ho67;obtain⟨Ao68,co68,eo68⟩:=Kd.R_slice HO694.out;subst eo68)|((with_reducible refine gc 48 rfl ?_);refine gl (some 24) Tryz.func48 #[.slice Ao68 y692.length co68] ?_;(with_reducible refine(L_first.calls k _ _ y692 t695 _ ?side1 ?side2 A5.out).mono ?_);(case side1=>exact bc (Kd.R_reads' HO694.out).2.2);(case side2=>exact(Kd.R_reads' HO694.out).2.1);rintro e w' ⟨rfl,⟨nd,rfl⟩⟩;refine⟨_,rfl,?_⟩)|((with_reducible refine gc 61 rfl ?_);refine gl (some 30) Tryz.func61 #[.slice A0 l0.length c0,.func (.func 56) #[] #[]] ?_;(with_reducible refine(api_Frac_partErr.calls k _ _ l0  t696 t697 _ ?side1 ?side2 A7.out).mono ?_);(case side1=>exact cd (Kd.C_below HR0.out bz));(case side2=>exact HC0.out);rintro e w69 ⟨rfl,hb⟩;refine⟨_,rfl,?_⟩;replace HO694:=rb HO694 hb;replace HB:=sb HB hb;(try clear hb))|((with_reducible refine gc 55 rfl ?_);refine gl (some 35) Tryz.func55 #[.int .i64 a1] ?_;(with_reducible refine(L_constantErr.calls a1 t698 _ A8.out).mono ?_);rintro e w' ⟨rfl,⟨nd,rfl⟩⟩;refine⟨_,rfl,?_⟩)|((with_reducible refine ga 36 rfl ?_);refine Kd.R_lit (Kd.int .i64) _ 35 ?hg (N:=36) ?hd (xs:=([t697,t698]:List Int)) (inner:=[.int .i64 t697,.int .i64 t698]) (ok:=fun _=>True) (okp:=fun _=>True) ?hr ?hp (fun _ hk=>hk) trivial (Below.refl _ _) (Nat.le_refl _) (by simp) ?_;(case hd=>rfl);(case hg=>rfl);(case hr=>first|(go_simp;done)|(go_simp;rfl));(case hp=>exact(Reps.one (ki t697) (Reps.one (ki t698) (Reps.none _ _))));intro v700 w70 ho71 hb hg_ hnew_;clear hg_ hnew_;(first|rw[← Ny699.out]at ho71|(simp only[Int.reduceToNat]at ho71;rw[← Ny699.out]at ho71));have HO701:=m0 (Kd.R_lower (Kd.R_new' ho71 (Kd.R_lt (br HO694.out))) (below_size bz));replace HO694:=m0 (Kd.R_elder' (br HO694.out) (Kd.R_base ho71) hb);replace HB:=sb HB hb;clear hb ho71;obtain⟨Ao72,co72,eo72⟩:=Kd.R_slice HO701.out;subst eo72)|((with_reducible refine gc 48 rfl ?_);refine gl (some 37) Tryz.func48 #[.slice Ao72 y699.length co72] ?_;(with_reducible refine(L_first.calls k _ _ y699 t702 _ ?side1 ?side2 A9.out).mono ?_);(case side1=>exact bc (Kd.R_reads' HO701.out).2.2);(case side2=>exact(Kd.R_reads' HO701.out).2.1);rintro e w' ⟨rfl,⟨nd,rfl⟩⟩;refine⟨_,rfl,?_⟩))
      go_ret2
      exact⟨_,e4,by first|exact Kd.R_nil _ _ _ _ _|exact Kd.N_nil _ _ _ _ _|exact Kd.V_nil _ _ _ _ _|exact Kd.Q_nil _ _ _ _ _|exact Kd.S_nil _ _ _ _ _,bz⟩
  · rw[if_neg c6]at H;have c6b0:=beq_eq_false_iff_ne.mpr c6;have c6b1:=bne_iff_ne.mpr c6;simp only[Option.some.injEq,Prod.mk.injEq]at H;obtain⟨rfl,rfl⟩:=H;go_enter Tryz.func26,Tryz.ntmps26
    go_wp2_with (first|((with_reducible refine gc 49 rfl ?_);refine goesL_ (some 18) rfl rfl Tryz.func49 (by kernel_rfl) rfl #[.bool (decide ((l0.length:Int)>0)),.int .i64 10] rfl (by(try simp only[List.map_toArray,List.map_cons,List.map_nil]);first|done|rfl|(simp only[List.length_drop,List.length_take];rfl)|(simp;first|done|exact⟨rfl,rfl⟩)) ?_;(with_reducible refine(L_unless.calls (decide ((l0.length:Int)>0)) 10 t690 _ A3.out).mono ?_);rintro e w' ⟨rfl,⟨nd,rfl⟩⟩;refine⟨_,rfl,?_⟩)|((with_reducible refine gc 49 rfl ?_);refine gl (some 22) Tryz.func49 #[.bool (decide ((l0.length:Int)≤24)),.int .i64 8] ?_;(with_reducible refine(L_unless.calls (decide ((l0.length:Int)≤24)) 8 t691 _ A4.out).mono ?_);rintro e w' ⟨rfl,⟨nd,rfl⟩⟩;refine⟨_,rfl,?_⟩)|((with_reducible refine ga 23 rfl ?_);refine Kd.R_lit (Kd.int .i64) _ 35 ?hg (N:=23) ?hd (xs:=([t690,t691]:List Int)) (inner:=[.int .i64 t690,.int .i64 t691]) (ok:=fun _=>True) (okp:=fun _=>True) ?hr ?hp (fun _ hk=>hk) trivial (Below.refl _ _) (Nat.le_refl _) (by simp) ?_;(case hd=>rfl);(case hg=>rfl);(case hr=>first|(go_simp;done)|(go_simp;rfl));(case hp=>exact(Reps.one (ki t690) (Reps.one (ki t691) (Reps.none _ _))));intro v693 w73 ho74 hb hg_ hnew_;clear hg_ hnew_;(first|rw[← Ny692.out]at ho74|(simp only[Int.reduceToNat]at ho74;rw[← Ny692.out]at ho74));have HO694:=m0 (Kd.R_lower ho74 (below_size bz));replace HB:=sb HB hb;clear hb ho74;obtain⟨Ao75,co75,eo75⟩:=Kd.R_slice HO694.out;subst eo75)|((with_reducible refine gc 48 rfl ?_);refine gl (some 24) Tryz.func48 #[.slice Ao75 y692.length co75] ?_;(with_reducible refine(L_first.calls k _ _ y692 t695 _ ?side1 ?side2 A5.out).mono ?_);(case side1=>exact bc (Kd.R_reads' HO694.out).2.2);(case side2=>exact(Kd.R_reads' HO694.out).2.1);rintro e w' ⟨rfl,⟨nd,rfl⟩⟩;refine⟨_,rfl,?_⟩))
    go_ret2
    exact⟨_,e4,by first|exact Kd.R_nil _ _ _ _ _|exact Kd.N_nil _ _ _ _ _|exact Kd.V_nil _ _ _ _ _|exact Kd.Q_nil _ _ _ _ _|exact Kd.S_nil _ _ _ _ _,bz⟩
end
section
def Bs_CopyFracs.f (l0:List (S24)):Option ((List (S24))):=(some (([]:List (S24)):List (S24))).bind fun y728=>(if y728.length+l0.length<8796093022208 then(some (y728++l0))else(none))
theorem Bs_CopyFracs.calls (A0:Option Addr) (c0:Nat) (l0:List (S24)) (r:List (S24)) (w:World) (hr0:Kd.C k24 w A0 l0.length l0) (hc0:l0.length≤c0) (H:Bs_CopyFracs.f l0=some r):
  Calls Tryz.prog 27 #[.slice A0 l0.length c0] w fun e w'=>∃ v0_:Value,e= .returned (v0_)∧Kd.R k24 24 w' w.heap.size (fun _=>True) v0_ r∧Below w.heap.size w w':=by
 have HR0:=m0 hr0;have HC0:=m0 hc0;clear hr0 hc0;have HB:=m0 (Below.refl w.heap.size w);unfold Bs_CopyFracs.f at H;obtain⟨y728,hy728⟩:∃ y_:List (S24),y_=(([]:List (S24))):=⟨_,rfl⟩;replace H:(if y728.length+l0.length<8796093022208 then(some (y728++l0))else(none))=some r:=hq hy728 H
 have Ny728:=m0 hy728;clear hy728
 by_cases c2:y728.length+l0.length<8796093022208
 ·rw [if_pos c2]at H;have LMc2:=m0 c2;clear c2;obtain⟨y731,hy731⟩:∃ y_:List (S24),y_=(y728++l0):=⟨_,rfl⟩;replace H:(some y731)=some r:=hq hy731 H
  have Ny731:=m0 hy731;clear hy731;obtain rfl:=Option.some.inj H;go_enter Tryz.func27,Tryz.ntmps27
  go_wp2_with (first|((with_reducible refine ga 3 rfl ?_);refine Kd.R_lit k24 _ 24 ?hg (N:=3) ?hd (xs:=([]:List (S24))) (inner:=[]) (ok:=fun _=>True) (okp:=fun _=>True) ?hr ?hp (fun _ hk=>hk) trivial (Below.refl _ _) (Nat.le_refl _) (by simp) ?_;(case hd=>rfl);(case hg=>rfl);(case hr=>first|(go_simp;done)|(go_simp;rfl));(case hp=>exact(Reps.none _ _));intro v729 w3 ho4 hb hg_ hnew_;clear hg_ hnew_;(first|rw[← Ny728.out]at ho4|(simp only[Int.reduceToNat]at ho4;rw[← Ny728.out]at ho4));have HO730:=m0 (Kd.R_lower ho4 (below_size bz));replace HB:=sb HB hb;clear hb ho4)|((with_reducible refine gate_builtin (b:= .append) (xs:= #[.tmp 3,.tmp 4]) rfl ?_);at_builtin;refine Kd.R_append_rows k24 (w0:=w) w.heap.size rfl (.tmp 3) (.tmp 4) 57 24 (.agg #[(.int .i64 0),(.int .i64 0)]) 16 rfl Tryz.underlying57 info24 rfl (by decide) (by omega) v729 y728 l0 _ _ _ (fun _=>True) (fun _=>False) rfl rfl ?aO ?aR (fun _ _ h=>h) (fun _ h=>h.elim) ?aF ?aB ?aS ?aL ?_;(case aR=>exact cb HR0 HB);(case aB=>exact bz);(case aF=>exact(fun _ _=>trivial));(case aO=>exact(br HO730.out));(case aS=>exact(below_size bz));(case aL=>have:=LMc2.out;omega);intro v732 w5 ho hb hg hat;rw[← Ny731.out]at ho;have n0_:=m0 (hb);have n1_:=m0 (ho);clear HB HO730;have HB:=n0_;have HO733:=n1_;clear n0_ n1_;clear ho hb hg hat))
  go_ret
  exact⟨_,e4,by(with_reducible repeat(first|apply Kd.R_alloc|apply Kd.R_drewN|apply Kd.R_drew));exact HO733.out,bz⟩
 ·rw [if_neg c2]at H;exact absurd H (by simp)
end
section
def Rf_Rest.l0:Nat→List Int→Int→Int→Int→Option (Int)
 |0,_,_,_,_=>none
 |k+1,x0,x1,x2,x7=>if x7<x2 then(if 0≤x7 then(if x7<(x0.length:Int)then(Rf_Rest.l0 k x0 (wrap64 (x1-(rd x0 x7))) x2 (wrap64 (x7+1)))else(none))else(none))else(some x1)
def Rf_Rest.f (k:Nat) (l0:List Int) (a1:Int) (a2:Int):Option (Int):=Rf_Rest.l0 k l0 a1 a2 0
theorem Rf_Rest.mono_l:∀ k,(∀ y0 y1 y2 y3,LeO (Rf_Rest.l0 k y0 y1 y2 y3) (Rf_Rest.l0 (k+1) y0 y1 y2 y3))
 |0=>fun _ _ _ _ r h=>by simp[Rf_Rest.l0]at h
 | k+1=>by
  have ih0:=Rf_Rest.mono_l k
  ·intro y0 y1 y2 y3;unfold Rf_Rest.l0
   exact lz
theorem Rf_Rest.mono:∀ a0 a1 a2 k,LeO (Rf_Rest.f k a0 a1 a2) (Rf_Rest.f (k+1) a0 a1 a2):=by
 intro a0 a1 a2 k;have ih0:=Rf_Rest.mono_l k;unfold Rf_Rest.f
 exact lz
theorem Rf_Rest.calls (k:Nat) (A0:Option Addr) (c0:Nat) (l0:List Int) (a1:Int) (a2:Int) (r:Int) (w:World) (hr0:Kd.C (Kd.int .i64) w A0 l0.length l0) (hc0:l0.length≤c0) (H:Rf_Rest.f k l0 a1 a2=some r):
  Calls Tryz.prog 16 #[.slice A0 l0.length c0,.int .i64 a1,.int .i64 a2] w fun e w'=>e= .returned (.int .i64 r)∧Drawn0 w w':=by
 have HR0:=m0 hr0;have HC0:=m0 hc0;clear hr0 hc0;unfold Rf_Rest.f at H;have H':=m0 H;clear H;go_enter Tryz.func16,Tryz.ntmps16
 go_wp2
 go_loopg [1,7] k (fun kq v1 v7 w'=>∃ (x1_1:Int) (x7_1:Int),v1= .int .i64 x1_1∧v7= .int .i64 x7_1∧Aside0 (Rf_Rest.l0 kq l0 x1_1 a2 x7_1=some r)∧Aside0 (kq≤k)∧Drawn0 w w')
 case atStart=>exact⟨(a1),(0),rz,rz,H',⟨Nat.le_refl _⟩,dz⟩
 case round=>
  clear H';obtain⟨x1_1,x7_1,rfl,rfl,HA,HK1,⟨m1,rfl⟩⟩:=hrel
  cases gk with
  |zero=>exact absurd HA.out (by simp[Rf_Rest.l0])
  | succ k1=>
   have H:=HA.out;clear HA;simp only[Rf_Rest.l0]at H
   by_cases c4:x7_1<a2
   ·rw [if_pos c4]at H;have c4b0:=decide_eq_true c4;clear c4
    by_cases c5:0≤x7_1
    ·rw [if_pos c5]at H;have c5b0:=decide_eq_true c5;clear c5
     by_cases c6:x7_1<(l0.length:Int)
     ·rw [if_pos c6]at H;have c6b0:=decide_eq_true c6;clear c6;have H':=m0 H;clear H;have p443:0≤(x7_1:Int):=od;have q443:x7_1<(l0.length:Int):=od;obtain⟨ad443,e443,hx443_0⟩:=Kd.at_int HR0.out x7_1 p443 q443
      cases e443
      replace p443:=eq_true p443;replace q443:=eq_true q443
      go_wp2
      go_roundg k1
      case measure=>have:=HK1.out;omega
      case rel=>exact⟨(wrap64 (x1_1-(rd l0 x7_1))),(wrap64 (x7_1+1)),rz,rz,H',⟨by have:=HK1.out;omega⟩,dz⟩
     ·rw [if_neg c6]at H;exact absurd H (by simp)
    ·rw [if_neg c5]at H;exact absurd H (by simp)
   ·rw [if_neg c4]at H;have c4b0:=decide_eq_false c4;clear c4;obtain rfl:=Option.some.inj H
    go_wp2
    go_ret
    exact⟨rz,dz⟩
end
section
def Rf_BreakErr.l0:Nat→List Int→Int→Int→Option (Int)
 |0,_,_,_=>none
 |k+1,x0,x1,x5=>if x5<(x0.length:Int)then((Rf_Rest.f k x0 x1 x5).bind fun t734=>(if t734≤0 then(some 20)else(Rf_BreakErr.l0 k x0 x1 (wrap64 (x5+1)))))else((Rf_Rest.f k x0 x1 (x0.length:Int)).bind fun t735=>(if t735<0 then(some 20)else(some 0)))
def Rf_BreakErr.f (k:Nat) (l0:List Int) (a1:Int):Option (Int):=Rf_BreakErr.l0 k l0 a1 0
theorem Rf_BreakErr.mono_l:∀ k,(∀ y0 y1 y2,LeO (Rf_BreakErr.l0 k y0 y1 y2) (Rf_BreakErr.l0 (k+1) y0 y1 y2))
 |0=>fun _ _ _ r h=>by simp[Rf_BreakErr.l0]at h
 | k+1=>by
  have ih0:=Rf_BreakErr.mono_l k
  ·intro y0 y1 y2;unfold Rf_BreakErr.l0
   have m1:=@Rf_Rest.mono;exact lz
theorem Rf_BreakErr.mono:∀ a0 a1 k,LeO (Rf_BreakErr.f k a0 a1) (Rf_BreakErr.f (k+1) a0 a1):=by
 intro a0 a1 k;have ih0:=Rf_BreakErr.mono_l k;unfold Rf_BreakErr.f
 have m1:=@Rf_Rest.mono;exact lz
theorem Rf_BreakErr.m1 {P:Prop} (h:P:=by
 go_wp2_with (first|((with_reducible refine gc 16 rfl ?_);refine gl (some 21) Tryz.func16 #[.slice A0 l0.length c0,.int .i64 a1,.int .i64 (l0.length:Int)] ?_;(with_reducible refine(Rf_Rest.calls k1 _ _ l0 a1 (l0.length:Int) t735 _ ?side1 ?side2 A6.out).mono ?_);(case side1=>exact cd HR0.out);(case side2=>exact HC0.out);rintro e w' ⟨rfl,⟨nd,rfl⟩⟩;refine⟨_,rfl,?_⟩))
 go_ret
 exact⟨rz,dz⟩):P:=h
theorem Rf_BreakErr.calls (k:Nat) (A0:Option Addr) (c0:Nat) (l0:List Int) (a1:Int) (r:Int) (w:World) (hr0:Kd.C (Kd.int .i64) w A0 l0.length l0) (hc0:l0.length≤c0) (H:Rf_BreakErr.f k l0 a1=some r):
  Calls Tryz.prog 28 #[.slice A0 l0.length c0,.int .i64 a1] w fun e w'=>e= .returned (.int .i64 r)∧Drawn0 w w':=by
 have HR0:=m0 hr0;have HC0:=m0 hc0;clear hr0 hc0;unfold Rf_BreakErr.f at H;have H':=m0 H;clear H;go_enter Tryz.func28,Tryz.ntmps28
 go_wp2
 go_loopg [5] k (fun kq v5 w'=>∃ (x5_1:Int),v5= .int .i64 x5_1∧Aside0 (Rf_BreakErr.l0 kq l0 a1 x5_1=some r)∧Aside0 (kq≤k)∧Drawn0 w w')
 case atStart=>exact⟨(0),rz,H',⟨Nat.le_refl _⟩,dz⟩
 case round=>
  clear H';obtain⟨x5_1,rfl,HA,HK1,⟨m1,rfl⟩⟩:=hrel
  cases gk with
  |zero=>exact absurd HA.out (by simp[Rf_BreakErr.l0])
  | succ k1=>
   have H:=HA.out;clear HA;simp only[Rf_BreakErr.l0]at H
   by_cases c3:x5_1<(l0.length:Int)
   ·rw [if_pos c3]at H;have c3b0:=decide_eq_true c3;clear c3;replace H:=oa H;obtain⟨t734,A4,H⟩:=H;(try dsimp only at H)
    by_cases c5:t734≤0
    ·rw [if_pos c5]at H;have c5b0:=decide_eq_true c5;clear c5;obtain rfl:=Option.some.inj H
     go_wp2_with (first|((with_reducible refine gc 16 rfl ?_);refine gl (some 15) Tryz.func16 #[.slice A0 l0.length c0,.int .i64 a1,.int .i64 x5_1] ?_;(with_reducible refine(Rf_Rest.calls k1 _ _ l0 a1 x5_1 t734 _ ?side1 ?side2 A4.out).mono ?_);(case side1=>exact cd HR0.out);(case side2=>exact HC0.out);rintro e w' ⟨rfl,⟨nd,rfl⟩⟩;refine⟨_,rfl,?_⟩))
     go_ret
     exact⟨rz,dz⟩
    ·rw [if_neg c5]at H;have c5b0:=decide_eq_false c5;clear c5;have H':=m0 H;clear H
     go_wp2_with (first|((with_reducible refine gc 16 rfl ?_);refine gl (some 15) Tryz.func16 #[.slice A0 l0.length c0,.int .i64 a1,.int .i64 x5_1] ?_;(with_reducible refine(Rf_Rest.calls k1 _ _ l0 a1 x5_1 t734 _ ?side1 ?side2 A4.out).mono ?_);(case side1=>exact cd HR0.out);(case side2=>exact HC0.out);rintro e w' ⟨rfl,⟨nd,rfl⟩⟩;refine⟨_,rfl,?_⟩))
     go_roundg k1
     case measure=>have:=HK1.out;omega
     case rel=>exact⟨(wrap64 (x5_1+1)),rz,H',⟨by have:=HK1.out;omega⟩,dz⟩
   ·rw [if_neg c3]at H;have c3b0:=decide_eq_false c3;clear c3;replace H:=oa H;obtain⟨t735,A6,H⟩:=H;(try dsimp only at H)
    by_cases c7:t735<0
    ·rw [if_pos c7]at H;have c7b0:=decide_eq_true c7;clear c7;obtain rfl:=Option.some.inj H
     exact Rf_BreakErr.m1
    ·rw [if_neg c7]at H;have c7b0:=decide_eq_false c7;clear c7;obtain rfl:=Option.some.inj H
     exact Rf_BreakErr.m1
end
section
theorem eqA74 (d:Nat) (w:World) (x0 y0:Int) (x1 y1:Int) (x2 y2:Int) (x3 y3:Int):
  (Op.equalIn (d+3) 74 (.agg #[.int .i64 x0,.int .i64 x1,.int .i64 x2,.int .i64 x3]) (.agg #[.int .i64 y0,.int .i64 y1,.int .i64 y2,.int .i64 y3])).run Tryz.prog w= .ok ((x0==y0 && (x1==y1)) && ((x2==y2 && (x3==y3)))) w:=by
 refine eqA_of Tryz.underlying74 (by kernel_rfl) ?_;refine eqf_cons (by rfl) (by go_simp) (by go_simp) (eqA24 (d+0) w _ _ _ _) ?_;exact eqf_last (by rfl) (by go_simp) (by go_simp) (eqA24 (d+0) w _ _ _ _)
end
section
attribute [local go_sem high] eqA74
def Rf_SameSpans.l0:Nat→List (S74)→List (S74)→Int→Option (Bool)
 |0,_,_,_=>none
 |k+1,x0,x1,x5=>if x5<(x0.length:Int)then(if 0≤x5 then(if x5<(x1.length:Int)then(if((!(((rd_T74 x0 x5).f0.f0)==((rd_T74 x1 x5).f0.f0)) || (!(((rd_T74 x0 x5).f0.f1)==((rd_T74 x1 x5).f0.f1)))) || ((!(((rd_T74 x0 x5).f1.f0)==((rd_T74 x1 x5).f1.f0)) || (!(((rd_T74 x0 x5).f1.f1)==((rd_T74 x1 x5).f1.f1))))))=true then(some false)else(Rf_SameSpans.l0 k x0 x1 (wrap64 (x5+1))))else(none))else(none))else(some true)
def Rf_SameSpans.f (k:Nat) (l0:List (S74)) (l1:List (S74)):Option (Bool):=if(l0.length:Int)=(l1.length:Int)then(Rf_SameSpans.l0 k l0 l1 0)else(some false)
theorem Rf_SameSpans.mono_l:∀ k,(∀ y0 y1 y2,LeO (Rf_SameSpans.l0 k y0 y1 y2) (Rf_SameSpans.l0 (k+1) y0 y1 y2))
 |0=>fun _ _ _ r h=>by simp[Rf_SameSpans.l0]at h
 | k+1=>by
  have ih0:=Rf_SameSpans.mono_l k
  ·intro y0 y1 y2;unfold Rf_SameSpans.l0
   exact lz
theorem Rf_SameSpans.mono:∀ a0 a1 k,LeO (Rf_SameSpans.f k a0 a1) (Rf_SameSpans.f (k+1) a0 a1):=by
 intro a0 a1 k;have ih0:=Rf_SameSpans.mono_l k;unfold Rf_SameSpans.f
 exact lz
theorem Rf_SameSpans.calls (k:Nat) (A0:Option Addr) (c0:Nat) (l0:List (S74)) (A1:Option Addr) (c1:Nat) (l1:List (S74)) (r:Bool) (w:World) (hr0:Kd.C k74 w A0 l0.length l0) (hc0:l0.length≤c0) (hr1:Kd.C k74 w A1 l1.length l1) (hc1:l1.length≤c1) (H:Rf_SameSpans.f k l0 l1=some r):
  Calls Tryz.prog 29 #[.slice A0 l0.length c0,.slice A1 l1.length c1] w fun e w'=>e= .returned (.bool r)∧Drawn0 w w':=by
 have hu74:=Tryz.underlying74;have HR0:=m0 hr0;have HC0:=m0 hc0;clear hr0 hc0;have HR1:=m0 hr1;have HC1:=m0 hc1;clear hr1 hc1;unfold Rf_SameSpans.f at H
 by_cases c3:(l0.length:Int)=(l1.length:Int)
 ·rw [if_pos c3]at H;have c3b0:=beq_iff_eq.mpr c3;have c3b1:=bne_eq_false_iff_eq.mpr c3;have c3b2:(l0.length==l1.length)=true:=by first|simpa using c3|(simp at c3 ⊢;omega)
  clear c3;have H':=m0 H;clear H;go_enter Tryz.func29,Tryz.ntmps29
  go_wp2
  repeat(go_quiet (fail);try go_wp2)
  go_loopg [5] k (fun kq v5 w'=>∃ (x5_1:Int),v5= .int .i64 x5_1∧Aside0 (Rf_SameSpans.l0 kq l0 l1 x5_1=some r)∧Aside0 (kq≤k)∧Drawn0 w w')
  case atStart=>exact⟨(0),rz,H',⟨Nat.le_refl _⟩,dz⟩
  case round=>
   clear H';obtain⟨x5_1,rfl,HA,HK1,⟨m1,rfl⟩⟩:=hrel
   cases gk with
   |zero=>exact absurd HA.out (by simp[Rf_SameSpans.l0])
   | succ k1=>
    have H:=HA.out;clear HA;simp only[Rf_SameSpans.l0]at H
    by_cases c4:x5_1<(l0.length:Int)
    ·rw [if_pos c4]at H;have c4b0:=decide_eq_true c4;clear c4
     by_cases c5:0≤x5_1
     ·rw [if_pos c5]at H;have c5b0:=decide_eq_true c5;clear c5
      by_cases c6:x5_1<(l1.length:Int)
      ·rw [if_pos c6]at H;have c6b0:=decide_eq_true c6;clear c6;have p736:0≤(x5_1:Int):=od;have q736:x5_1<(l0.length:Int):=od;obtain⟨ad736,e736,hx736_0,hx736_1,hx736_2,hx736_3⟩:=at_T74 HR0.out x5_1 p736 q736
       cases e736
       replace p736:=eq_true p736;replace q736:=eq_true q736;have p737:0≤(x5_1:Int):=od;have q737:x5_1<(l1.length:Int):=od;obtain⟨ad737,e737,hx737_0,hx737_1,hx737_2,hx737_3⟩:=at_T74 HR1.out x5_1 p737 q737
       cases e737
       replace p737:=eq_true p737;replace q737:=eq_true q737
       by_cases c7:((!(((rd_T74 l0 x5_1).f0.f0)==((rd_T74 l1 x5_1).f0.f0)) || (!(((rd_T74 l0 x5_1).f0.f1)==((rd_T74 l1 x5_1).f0.f1)))) || ((!(((rd_T74 l0 x5_1).f1.f0)==((rd_T74 l1 x5_1).f1.f0)) || (!(((rd_T74 l0 x5_1).f1.f1)==((rd_T74 l1 x5_1).f1.f1))))))=true
       ·rw [if_pos c7]at H;have c7b0:((!(((rd_T74 l0 x5_1).f0.f0)==((rd_T74 l1 x5_1).f0.f0)) || (!(((rd_T74 l0 x5_1).f0.f1)==((rd_T74 l1 x5_1).f0.f1)))) || ((!(((rd_T74 l0 x5_1).f1.f0)==((rd_T74 l1 x5_1).f1.f0)) || (!(((rd_T74 l0 x5_1).f1.f1)==((rd_T74 l1 x5_1).f1.f1))))))=true:=c7;clear c7;obtain rfl:=Option.some.inj H
        go_wp2
        repeat(go_quiet (fail);try go_wp2)
        go_ret
        exact⟨rz,dz⟩
       ·rw [if_neg c7]at H;have c7b0:((!(((rd_T74 l0 x5_1).f0.f0)==((rd_T74 l1 x5_1).f0.f0)) || (!(((rd_T74 l0 x5_1).f0.f1)==((rd_T74 l1 x5_1).f0.f1)))) || ((!(((rd_T74 l0 x5_1).f1.f0)==((rd_T74 l1 x5_1).f1.f0)) || (!(((rd_T74 l0 x5_1).f1.f1)==((rd_T74 l1 x5_1).f1.f1))))))=false:=by simpa using c7
        clear c7;have H':=m0 H;clear H
        go_wp2
        repeat(go_quiet (fail);try go_wp2)
        go_roundg k1
        case measure=>have:=HK1.out;omega
        case rel=>exact⟨(wrap64 (x5_1+1)),rz,H',⟨by have:=HK1.out;omega⟩,dz⟩
      ·rw [if_neg c6]at H;exact absurd H (by simp)
     ·rw [if_neg c5]at H;exact absurd H (by simp)
    ·rw [if_neg c4]at H;have c4b0:=decide_eq_false c4;clear c4;obtain rfl:=Option.some.inj H
     go_wp2
     repeat(go_quiet (fail);try go_wp2)
     go_ret
     exact⟨rz,dz⟩
 ·rw [if_neg c3]at H;have c3b0:=beq_eq_false_iff_ne.mpr c3;have c3b1:=bne_iff_ne.mpr c3;have c3b2:(l0.length==l1.length)=false:=by first|simpa using c3|(simp at c3 ⊢;omega)
  obtain rfl:=Option.some.inj H;go_enter Tryz.func29,Tryz.ntmps29
  go_wp2
  repeat(go_quiet (fail);try go_wp2)
  go_ret
  exact⟨rz,dz⟩
end
section
def Bs_Size.f (a0:Int):Option (Int):=some (mx a0 (wrap64 (-a0)))
theorem Bs_Size.calls (a0:Int) (r:Int) (w:World) (H:Bs_Size.f a0=some r):
  Calls Tryz.prog 117 #[.int .i64 a0] w fun e w'=>e= .returned (.int .i64 r)∧Below w.heap.size w w':=by
 have HB:=m0 (Below.refl w.heap.size w);unfold Bs_Size.f at H;obtain⟨ji2,hji2⟩:∃ j_:Int,(mx a0 (wrap64 (-a0)))=j_:=⟨_,rfl⟩;replace H:(some ji2)=some r:=by first|(rw[hji2]at H;exact H)|(simp only[hji2]at H ⊢;exact H)
 have hji2_:(if a0<(wrap64 (-a0))then(wrap64 (-a0))else a0)=ji2:=hji2;obtain rfl:=Option.some.inj H;go_enter Tryz.func117,Tryz.ntmps117
 go_wp2
 go_ret
 exact⟨by first|rfl|(simp[errW_none,errW_some]<;>rfl)|(simp only[← hji2];first|rfl|(simp[errW_none,errW_some]<;>rfl))|(simp[*,errW_none,errW_some]<;>rfl),bz⟩
end
end Go.Proofs.YteiafijbgjgiaaaGreat.A
