/- Walks of the program's functions (printed, made shorter), each with what it computes. -/
import Derived.Test.YteiafijbgjgiaaaGreatP19
import Derived.Test.YteiafijbgjgiaaaGreatP15
namespace Go.Proofs.YteiafijbgjgiaaaGreat.A
set_option maxHeartbeats 8000000
set_option maxRecDepth 100000
open Go.RowKit Go.Proofs.YteiafijbgjgiaaaGreatW.PrintWords Go.Proofs.YteiafijbgjgiaaaGreatW.PrintLast Go.Proofs.YteiafijbgjgiaaaGreatW.PrintMore
attribute [local go_sem] max2_int min2_int max_two min_two max_three min_three max_four min_four
set_option linter.unusedVariables false
set_option linter.unusedSimpArgs false
section
def Bs_Gcd.l0:Nat→Int→Int→Option (Int)
 |0,_,_=>none
 |k+1,x0,x1=>if x1=0 then((Bs_Size.f x0).bind fun t437=>(some t437))else(Bs_Gcd.l0 k x1 (Int.tmod x0 x1))
def Bs_Gcd.f (k:Nat) (a0:Int) (a1:Int):Option (Int):=Bs_Gcd.l0 k a0 a1
theorem Bs_Gcd.mono_l:∀ k,(∀ y0 y1,LeO (Bs_Gcd.l0 k y0 y1) (Bs_Gcd.l0 (k+1) y0 y1))
 |0=>fun _ _ r h=>by simp[Bs_Gcd.l0]at h
 | k+1=>by
  have ih0:=Bs_Gcd.mono_l k
  ·intro y0 y1;unfold Bs_Gcd.l0
   exact lz
theorem Bs_Gcd.mono:∀ a0 a1 k,LeO (Bs_Gcd.f k a0 a1) (Bs_Gcd.f (k+1) a0 a1):=by
 intro a0 a1 k;have ih0:=Bs_Gcd.mono_l k;unfold Bs_Gcd.f
 exact lz
theorem Bs_Gcd.calls (k:Nat) (a0:Int) (a1:Int) (r:Int) (w:World) (H:Bs_Gcd.f k a0 a1=some r):
  Calls Tryz.prog 82 #[.int .i64 a0,.int .i64 a1] w fun e w'=>e= .returned (.int .i64 r)∧Below w.heap.size w w':=by
 have HB:=m0 (Below.refl w.heap.size w);unfold Bs_Gcd.f at H;have H':=m0 H;clear H;go_enter Tryz.func82,Tryz.ntmps82
 go_wp2
 repeat(go_quiet (fail);try go_wp2)
 go_loopg [0,1] k (fun kq v0 v1 w'=>∃ (x0_1:Int) (x1_1:Int),v0= .int .i64 x0_1∧v1= .int .i64 x1_1∧Aside0 (Bs_Gcd.l0 kq x0_1 x1_1=some r)∧Aside0 (kq≤k)∧Aside0 (Below w.heap.size w w'))
 case atStart=>exact⟨(a0),(a1),rz,rz,H',⟨Nat.le_refl _⟩,⟨bz⟩⟩
 case round=>
  clear H';obtain⟨x0_1,x1_1,rfl,rfl,HA,HK1,HB⟩:=hrel
  cases gk with
  |zero=>exact absurd HA.out (by simp[Bs_Gcd.l0])
  | succ k1=>
   have H:=HA.out;clear HA;simp only[Bs_Gcd.l0]at H
   by_cases c3:x1_1=0
   ·rw [if_pos c3]at H;have c3b0:=beq_iff_eq.mpr c3;have c3b1:=bne_eq_false_iff_eq.mpr c3;clear c3;replace H:=oa H;obtain⟨t437,A4,H⟩:=H;(try dsimp only at H);obtain rfl:=Option.some.inj H
    go_wp2_with (first|(go_at_call 117;(with_reducible refine(Bs_Size.calls x0_1 t437 _ A4.out).mono ?_);rintro e w5 ⟨rfl,hb⟩;replace HB:=sb HB hb;(try clear hb)))
    repeat(go_quiet (first|(go_at_call 117;(with_reducible refine(Bs_Size.calls x0_1 t437 _ A4.out).mono ?_);rintro e w5 ⟨rfl,hb⟩;replace HB:=sb HB hb;(try clear hb)));try go_wp2_with (first|(go_at_call 117;(with_reducible refine(Bs_Size.calls x0_1 t437 _ A4.out).mono ?_);rintro e w5 ⟨rfl,hb⟩;replace HB:=sb HB hb;(try clear hb))))
    go_ret
    exact ez
   ·rw [if_neg c3]at H;have c3b0:=beq_eq_false_iff_ne.mpr c3;have c3b1:=bne_iff_ne.mpr c3;have H':=m0 H;clear H
    go_wp2
    repeat(go_quiet (fail);try go_wp2)
    go_roundg k1
    case measure=>have:=HK1.out;omega
    case rel=>exact⟨(x1_1),(Int.tmod x0_1 x1_1),rz,rz,H',⟨by have:=HK1.out;omega⟩,⟨bz⟩⟩
end
section
def Bs_Lowest.f (k:Nat) (a0:Int) (a1:Int):Option (Int×Int):=(Bs_Gcd.f k a0 a1).bind fun t739=>(if a1<0 then(if(wrap64 (-t739))=0 then(none)else(some (wrap64 (Int.tdiv a0 (wrap64 (-t739))),wrap64 (Int.tdiv a1 (wrap64 (-t739))))))else(if t739=0 then(none)else(some (wrap64 (Int.tdiv a0 t739),wrap64 (Int.tdiv a1 t739)))))
theorem Bs_Lowest.mono:∀ a0 a1 k,LeO (Bs_Lowest.f k a0 a1) (Bs_Lowest.f (k+1) a0 a1):=by
 intro a0 a1 k;unfold Bs_Lowest.f
 have m1:=@Bs_Gcd.mono;exact lz
def Bs_Lowest.T4:Bool×List (List Nat×List Nat):=(true,[([],[]),([],[]),([0,1],[0,1]),([],[]),([],[]),([3,4],[3,4]),([2,5],[2,5]),([6,0,1,2,3,4,5,6],[6])])
def Bs_Lowest.B4:List Nat:=[0,0,3,0,0,24,63,127]
theorem Bs_Lowest.tab4:rtab .any (opsOf Tryz.f90 4)=Bs_Lowest.T4:=by kernel_rfl
theorem Bs_Lowest.bits4:waitsOk Bs_Lowest.T4.2 Bs_Lowest.B4=true:=by kernel_rfl
theorem Bs_Lowest.calls (k:Nat) (a0:Int) (a1:Int) (r1:Int) (r2:Int) (w:World) (H:Bs_Lowest.f k a0 a1=some (r1,r2)):
  Calls Tryz.prog 90 #[.int .i64 a0,.int .i64 a1] w fun e w'=>e= .returned (.agg #[.int .i64 r1,.int .i64 r2])∧Below w.heap.size w w':=by
 have hu24:=Tryz.underlying24;have HB:=m0 (Below.refl w.heap.size w);unfold Bs_Lowest.f at H;replace H:=oa H;obtain⟨t739,A3,H⟩:=H;(try dsimp only at H)
 by_cases c4:a1<0
 ·rw [if_pos c4]at H;have c4b0:=decide_eq_true c4;clear c4
  by_cases c5:(wrap64 (-t739))=0
  ·rw [if_pos c5]at H;exact absurd H (by simp)
  ·rw [if_neg c5]at H;have c5b0:=beq_eq_false_iff_ne.mpr c5;have c5b1:=bne_iff_ne.mpr c5;simp only[Option.some.injEq,Prod.mk.injEq]at H;obtain⟨rfl,rfl⟩:=H;go_enter Tryz.func90,Tryz.ntmps90
   try go_wp2_with (first|((with_reducible refine ga 4 rfl ?_);refine be 4 24 #[.int .i64 0,.int .i64 0] ?_;intro gb738 hg w6 hbox hb;have BK738:=m0 hbox;have GE738:=gw w hg;replace HB:=sb HB hb;clear hb hbox hg)|((with_reducible refine gc 82 rfl ?_);refine gl (some 8) Tryz.func82 #[.int .i64 a0,.int .i64 a1] ?_;(with_reducible refine(Bs_Gcd.calls k a0 a1 t739 _ A3.out).mono ?_);rintro e w7 ⟨rfl,hb⟩;refine⟨_,rfl,?_⟩;replace BK738:=bb BK738 hb;replace HB:=sb HB hb;(try clear hb)))
   replace BK738:=bd BK738;replace HB:=sd HB;refine start_ (n:=8) (S:=fun w'=>True) (ds:=[]) _ (by kernel_rfl) rfl rfl trivial (fun hH=>?_);refine with_tabW Bs_Lowest.tab4 Bs_Lowest.bits4 (fun HT_ HW_=>?_);generalize w7.drew=w8 at BK738 HB hH ⊢;refine pZ 0 (some 13) (bs 8 1) HT_ ?_;refine pZ 1 (some 14) (bs 8 3) HT_ ?_;refine pZ 2 (some 15) (bs 8 7) HT_ ?_;refine pZ 3 (some 16) (bs 8 15) HT_ ?_;refine pZ 4 (some 17) (bs 8 31) HT_ ?_;refine pZ 5 (some 18) (bs 8 63) HT_ ?_;refine pZ 6 (some 19) (bs 8 127) HT_ ?_;refine oneZ 7 (none) (bs 8 255) (o1 HT_) fun K hK=>?_;obtain⟨hs9,hfs9⟩:=q0 BK738;obtain⟨hs10,hfs10⟩:=q1 BK738;refine skip_ (w1:=?_) (by rfl) rfl ?_ ?_;rotate_left
   ·go_simp
    rfl
   refine hK.out _ _ trivial (fun hH=>?_);clear hK K;refine done_ (done_of HT_.out (by kernel_rfl)) ?_
   try go_wp2
   refine bodyPost_ret (results_cell_row rfl _ _ gb738 24 #[.int .i64 (wrap64 (Int.tdiv a0 (wrap64 (-t739)))),.int .i64 (wrap64 (Int.tdiv a1 (wrap64 (-t739))))] (0,0) _ rfl (bq BK738.out) Tryz.underlying24 rfl (by kernel_rfl)) rfl ?_;exact ez
 ·rw [if_neg c4]at H;have c4b0:=decide_eq_false c4;clear c4
  by_cases c11:t739=0
  ·rw [if_pos c11]at H;exact absurd H (by simp)
  ·rw [if_neg c11]at H;have c11b0:=beq_eq_false_iff_ne.mpr c11;have c11b1:=bne_iff_ne.mpr c11;simp only[Option.some.injEq,Prod.mk.injEq]at H;obtain⟨rfl,rfl⟩:=H;go_enter Tryz.func90,Tryz.ntmps90
   try go_wp2_with (first|((with_reducible refine ga 4 rfl ?_);refine be 4 24 #[.int .i64 0,.int .i64 0] ?_;intro gb738 hg w12 hbox hb;have BK738:=m0 hbox;have GE738:=gw w hg;replace HB:=sb HB hb;clear hb hbox hg)|((with_reducible refine gc 82 rfl ?_);refine gl (some 8) Tryz.func82 #[.int .i64 a0,.int .i64 a1] ?_;(with_reducible refine(Bs_Gcd.calls k a0 a1 t739 _ A3.out).mono ?_);rintro e w13 ⟨rfl,hb⟩;refine⟨_,rfl,?_⟩;replace BK738:=bb BK738 hb;replace HB:=sb HB hb;(try clear hb)))
   replace BK738:=bd BK738;replace HB:=sd HB;refine start_ (n:=8) (S:=fun w'=>True) (ds:=[]) _ (by kernel_rfl) rfl rfl trivial (fun hH=>?_);refine with_tabW Bs_Lowest.tab4 Bs_Lowest.bits4 (fun HT_ HW_=>?_);generalize w13.drew=w14 at BK738 HB hH ⊢;refine pZ 0 (some 13) (bs 8 1) HT_ ?_;refine pZ 1 (some 14) (bs 8 3) HT_ ?_;refine pZ 2 (some 15) (bs 8 7) HT_ ?_;refine pZ 3 (some 16) (bs 8 15) HT_ ?_;refine pZ 4 (some 17) (bs 8 31) HT_ ?_;refine pZ 5 (some 18) (bs 8 63) HT_ ?_;refine pZ 6 (some 19) (bs 8 127) HT_ ?_;refine oneZ 7 (none) (bs 8 255) (o1 HT_) fun K hK=>?_;obtain⟨hs15,hfs15⟩:=q0 BK738;obtain⟨hs16,hfs16⟩:=q1 BK738;refine skip_ (w1:=?_) (by rfl) rfl ?_ ?_;rotate_left
   ·go_simp
    rfl
   refine hK.out _ _ trivial (fun hH=>?_);clear hK K;refine done_ (done_of HT_.out (by kernel_rfl)) ?_
   try go_wp2
   refine bodyPost_ret (results_cell_row rfl _ _ gb738 24 #[.int .i64 (wrap64 (Int.tdiv a0 t739)),.int .i64 (wrap64 (Int.tdiv a1 t739))] (0,0) _ rfl (bq BK738.out) Tryz.underlying24 rfl (by kernel_rfl)) rfl ?_;exact ez
end
section
def Rf_Shares.l0:Nat→List Int→Int→List (S24)→Int→Option ((List (S24)))
 |0,_,_,_,_=>none
 |k+1,x0,x1,x5,x6=>if x6<(x0.length:Int)then(if 0≤x6 then((Rf_Rest.f k x0 x1 x6).bind fun t741=>((Bs_Lowest.f k (rd x0 x6) t741).bind fun bt742=>(if x5.length<8796093022208 then(Rf_Shares.l0 k x0 x1 (x5++ [(⟨bt742.1,bt742.2⟩:S24)]) (wrap64 (x6+1)))else(none))))else(none))else(some x5)
def Rf_Shares.f (k:Nat) (l0:List Int) (a1:Int):Option ((List (S24))):=Rf_Shares.l0 k l0 a1 ([]:List (S24)) 0
theorem Rf_Shares.mono_l:∀ k,(∀ y0 y1 y2 y3,LeO (Rf_Shares.l0 k y0 y1 y2 y3) (Rf_Shares.l0 (k+1) y0 y1 y2 y3))
 |0=>fun _ _ _ _ r h=>by simp[Rf_Shares.l0]at h
 | k+1=>by
  have ih0:=Rf_Shares.mono_l k
  ·intro y0 y1 y2 y3;unfold Rf_Shares.l0
   have m1:=@Bs_Lowest.mono;have m2:=@Rf_Rest.mono;exact lz
theorem Rf_Shares.mono:∀ a0 a1 k,LeO (Rf_Shares.f k a0 a1) (Rf_Shares.f (k+1) a0 a1):=by
 intro a0 a1 k;have ih0:=Rf_Shares.mono_l k;unfold Rf_Shares.f
 have m1:=@Bs_Lowest.mono;have m2:=@Rf_Rest.mono;exact lz
def Rf_Shares.T5:Bool×List (List Nat×List Nat):=(true,[([],[]),([],[]),([],[]),([1,2],[1,2]),([3],[3]),([],[]),([],[]),([],[]),([5,6,7],[5,6,7]),([4,8,8],[4,8]),([9],[9]),([0,10,9],[0,10]),([11,11,0,1,2,3,4,5,6,7,8,9,10,11],[0,11])])
def Rf_Shares.B5:List Nat:=[0,0,0,6,14,0,0,0,224,510,1022,2047,4095]
theorem Rf_Shares.tab5:rtab .any (opsOf Tryz.f64 5)=Rf_Shares.T5:=by kernel_rfl
theorem Rf_Shares.bits5:waitsOk Rf_Shares.T5.2 Rf_Shares.B5=true:=by kernel_rfl
theorem Rf_Shares.calls (k:Nat) (A0:Option Addr) (c0:Nat) (l0:List Int) (a1:Int) (r:List (S24)) (w:World) (hr0:Kd.C (Kd.int .i64) w A0 l0.length l0) (hc0:l0.length≤c0) (H:Rf_Shares.f k l0 a1=some r):
  Calls Tryz.prog 64 #[.slice A0 l0.length c0,.int .i64 a1] w fun e w'=>∃ v0_:Value,e= .returned (v0_)∧Kd.R k24 24 w' w.heap.size (fun _=>True) v0_ r∧Below w.heap.size w w':=by
 have HR0:=m0 hr0;have HC0:=m0 hc0;clear hr0 hc0;have HB:=m0 (Below.refl w.heap.size w);unfold Rf_Shares.f at H;have H':=m0 H;clear H;go_enter Tryz.func64,Tryz.ntmps64
 go_wp2
 go_loopg [5,6] k (fun kq v5 v6 w'=>∃ (x5_1:List (S24)) (x6_1:Int),v6= .int .i64 x6_1∧Aside0 (Rf_Shares.l0 kq l0 a1 x5_1 x6_1=some r)∧Aside0 (kq≤k)∧Aside0 (Kd.R k24 24 w' w.heap.size (fun _=>True) v5 x5_1)∧Aside0 (Below w.heap.size w w'))
 case atStart=>exact⟨(([]:List (S24))),(0),rz,H',⟨Nat.le_refl _⟩,⟨by first|exact Kd.R_nil _ _ _ _ _|exact Kd.N_nil _ _ _ _ _|exact Kd.V_nil _ _ _ _ _|exact Kd.Q_nil _ _ _ _ _|exact Kd.S_nil _ _ _ _ _⟩,⟨bz⟩⟩
 case round=>
  clear H';obtain⟨x5_1,x6_1,rfl,HA,HK1,HO_5,HB⟩:=hrel
  cases gk with
  |zero=>exact absurd HA.out (by simp[Rf_Shares.l0])
  | succ k1=>
   have H:=HA.out;clear HA;simp only[Rf_Shares.l0]at H
   by_cases c3:x6_1<(l0.length:Int)
   ·rw [if_pos c3]at H;have c3b0:=decide_eq_true c3;clear c3
    by_cases c4:0≤x6_1
    ·rw [if_pos c4]at H;have c4b0:=decide_eq_true c4;clear c4;replace H:=oa H;obtain⟨t741,A5,H⟩:=H;(try dsimp only at H);replace H:=oa H;obtain⟨⟨t742,t743⟩,A6,H⟩:=H;(try dsimp only at H)
     by_cases c7:x5_1.length<8796093022208
     ·rw [if_pos c7]at H;have LMc7:=m0 c7;clear c7;obtain⟨y744,hy744⟩:∃ y_:List (S24),y_=(x5_1++ [(⟨t742,t743⟩:S24)]):=⟨_,rfl⟩;replace H:(Rf_Shares.l0 k1 l0 a1 y744 (wrap64 (x6_1+1)))=some r:=hq hy744 H
      have Ny744:=m0 hy744;clear hy744;have H':=m0 H;clear H
      try go_wp2
      replace HO_5:=m0 (Kd.R_drew HO_5.out);replace HB:=sd HB;have p740:0≤(x6_1:Int):=od;have q740:x6_1<(l0.length:Int):=od;obtain⟨ad740,e740,hx740_0⟩:=Kd.at_int HR0.out x6_1 p740 q740;have hw740_0:=hx740_0
      cases e740
      replace hx740_0:=hc HB hx740_0;replace p740:=eq_true p740;replace q740:=eq_true q740;refine start_ (n:=13) (S:=fun w'=>w'.cell? (ad740.add (x6_1).toNat)=some (.int .i64 (rd l0 x6_1))) (ds:=[]) _ (by kernel_rfl) rfl rfl (((HB.out.cell (World.block_lt_of_cell? w _ hw740_0)).trans hw740_0)) (fun hH=>?_);refine with_tabW Rf_Shares.tab5 Rf_Shares.bits5 (fun HT_ HW_=>?_);generalize wr.drew=w8 at HO_5 HB hx740_0 hH ⊢;refine pZ 0 (some 13) (bs 13 1) HT_ ?_;refine pZ 1 (some 14) (bs 13 3) HT_ ?_;refine pZ 2 (some 15) (bs 13 7) HT_ ?_;refine pZ 3 (some 16) (bs 13 15) HT_ ?_;refine pZ 5 (some 18) (bs 13 47) HT_ ?_;refine pZ 6 (some 19) (bs 13 111) HT_ ?_;refine pZ 7 (some 20) (bs 13 239) HT_ ?_;refine take_ (i:=4) (N:=some 17) (v:=?_) (a':=?_) (bs 13 255) rfl rfl (tw HT_ HW_) (fun _ _ _ h=>h) (Or.inl ⟨by rfl,?_⟩) hH ?_ ?_;rotate_left
      ·intro w' s0
       go_simp
       with_reducible rfl
      rotate_left
      ·exact pz
      refine oneZ 8 (some 21) (bs 13 511) (o1 HT_) fun K hK=>?_;refine gz Tryz.func16 #[.slice (some ad740) l0.length c0,.int .i64 a1,.int .i64 x6_1] ?_
      with_reducible refine(Rf_Rest.calls k1 _ _ l0 a1 x6_1 t741 _ ?side1 ?side2 A5.out).mono ?_
      (case side1=>exact cb HR0 HB)
      (case side2=>exact HC0.out)
      rintro e w' ⟨rfl,⟨nd,rfl⟩⟩;refine⟨_,rfl,?_⟩;refine hK.out _ _ (((HB.out.cell (World.block_lt_of_cell? w _ hw740_0)).trans hw740_0)) (fun hH=>?_);clear hK K;refine nz 21 ?_;refine oneZ 9 (some 22) (bs 13 1023) (o1 HT_) fun K hK=>?_;refine gz Tryz.func90 #[.int .i64 (rd l0 x6_1),.int .i64 t741] ?_
      with_reducible refine(Bs_Lowest.calls k1 (rd l0 x6_1) t741 t742 t743 _ A6.out).mono ?_
      rintro e w9 ⟨rfl,hb⟩;refine⟨_,rfl,?_⟩;replace HO_5:=rb HO_5 hb;replace HB:=sb HB hb;(try clear hb);refine hK.out _ _ (((HB.out.cell (World.block_lt_of_cell? w _ hw740_0)).trans hw740_0)) (fun hH=>?_);clear hK K;refine nz 22 ?_;refine oneZ 10 (some 23) (bs 13 2047) (o1 HT_) fun K hK=>?_;refine value_ (w1:=?_) (v:=?_) (by rfl) rfl ?_ ?_;rotate_left 2
      ·go_simp
       constructor
       ·rfl
       ·rfl
      refine hK.out _ _ ((World.cell?_alloc_lt _ _ _ (World.block_lt_of_cell? _ _ (((HB.out.cell (World.block_lt_of_cell? w _ hw740_0)).trans hw740_0)))).trans (((HB.out.cell (World.block_lt_of_cell? w _ hw740_0)).trans hw740_0))) (fun hH=>?_);clear hK K;refine nz 23 ?_;refine oneZ 11 (some 24) (bs 13 4095) (o1 HT_) fun K hK=>?_;refine Kd.R_append_step k24 (w0:=w) w.heap.size (by rfl) (.tmp 13) (.tmp 23) 57 24 (.agg #[(.int .i64 0),(.int .i64 0)]) 16 rfl Tryz.underlying57 info24 rfl (by decide) (by omega) u5 x5_1 (⟨t742,t743⟩:S24) [.int .i64 t742,.int .i64 t743] (fun _=>True) (fun _=>False) rfl rfl ?aP (fun _ hk=>hk.elim) ?aF ?aO ?aB ?aS ?aL ?_
      (case aP=>exact k24_mkM _ _ _ (⟨t742,t743⟩:S24))
      (case aB=>exact bz)
      (case aF=>exact(fun _ _=>trivial))
      (case aO=>exact(br HO_5.out))
      (case aS=>exact(below_size bz))
      (case aL=>have:=LMc7.out;omega)
      intro v745 w10 ho hb hg hat;rw[← Ny744.out]at ho;have n0_:=m0 (hb);have n1_:=m0 (ho);clear HB HO_5;have HB:=n0_;have HO746:=n1_;clear n0_ n1_;clear ho hb hg hat;refine hK.out _ _ (((HB.out.cell (World.block_lt_of_cell? w _ hw740_0)).trans hw740_0)) (fun hH=>?_);clear hK K;refine nz 24 ?_;refine pZ 12 (some 5) (bs 13 8191) HT_ ?_;refine done_ (done_of HT_.out (by kernel_rfl)) ?_
      try go_wp2
      go_roundg k1
      case measure=>have:=HK1.out;omega
      case rel=>exact⟨(y744),(wrap64 (x6_1+1)),rz,H',⟨by have:=HK1.out;omega⟩,⟨br HO746.out⟩,⟨bz⟩⟩
     ·rw [if_neg c7]at H;exact absurd H (by simp)
    ·rw [if_neg c4]at H;exact absurd H (by simp)
   ·rw [if_neg c3]at H;have c3b0:=decide_eq_false c3;clear c3;obtain rfl:=Option.some.inj H
    go_wp2
    go_ret
    exact⟨_,e4,by(with_reducible repeat(first|apply Kd.R_alloc|apply Kd.R_drewN|apply Kd.R_drew));exact HO_5.out,bz⟩
end
section
def Rf_Spans.l0:Nat→List Int→List (S24)→List (S24)→List (S74)→Int→Option ((List (S74)))
 |0,_,_,_,_,_=>none
 |k+1,x0,x5,x6,x7,x8=>if x8<(x0.length:Int)then(if 0≤x8 then(if x8<(x5.length:Int)then(if x8<(x6.length:Int)then(if x7.length<4398046511104 then(Rf_Spans.l0 k x0 x5 x6 (x7++ [(⟨(⟨(rd_T24 x5 x8).f0,(rd_T24 x5 x8).f1⟩:S24),(⟨(rd_T24 x6 x8).f0,(rd_T24 x6 x8).f1⟩:S24)⟩:S74)]) (wrap64 (x8+1)))else(none))else(none))else(none))else(none))else(some x7)
def Rf_Spans.f (k:Nat) (l0:List Int) (a1_0:Int) (a1_1:Int):Option ((List (S74))):=(Rf_Shares.f k l0 a1_1).bind fun t748=>((Rf_Shares.f k l0 a1_0).bind fun t751=>(Rf_Spans.l0 k l0 t748 t751 ([]:List (S74)) 0))
theorem Rf_Spans.mono_l:∀ k,(∀ y0 y1 y2 y3 y4,LeO (Rf_Spans.l0 k y0 y1 y2 y3 y4) (Rf_Spans.l0 (k+1) y0 y1 y2 y3 y4))
 |0=>fun _ _ _ _ _ r h=>by simp[Rf_Spans.l0]at h
 | k+1=>by
  have ih0:=Rf_Spans.mono_l k
  ·intro y0 y1 y2 y3 y4;unfold Rf_Spans.l0
   have m1:=@Rf_Shares.mono;exact lz
theorem Rf_Spans.mono:∀ a0 a1 a2 k,LeO (Rf_Spans.f k a0 a1 a2) (Rf_Spans.f (k+1) a0 a1 a2):=by
 intro a0 a1 a2 k;have ih0:=Rf_Spans.mono_l k;unfold Rf_Spans.f
 have m1:=@Rf_Shares.mono;exact lz
def Rf_Spans.T1:Bool×List (List Nat×List Nat):=(true,[([],[]),([],[]),([1],[1]),([0,2],[0,2]),([],[]),([],[]),([5],[5]),([4,6,3],[4,6]),([3,7,0,1,2,3],[3]),([7,8,0,1,2,3,4,5,6,7,8],[7])])
def Rf_Spans.B1:List Nat:=[0,0,2,7,0,0,32,127,255,511]
theorem Rf_Spans.tab1:rtab .any (opsOf Tryz.f30 1)=Rf_Spans.T1:=by kernel_rfl
theorem Rf_Spans.bits1:waitsOk Rf_Spans.T1.2 Rf_Spans.B1=true:=by kernel_rfl
def Rf_Spans.T6:Bool×List (List Nat×List Nat):=(true,[([],[]),([],[]),([],[]),([1,2],[1,2]),([3],[3]),([],[]),([],[]),([5,6],[5,6]),([7],[7]),([4,8],[4,8]),([9],[9]),([0,10],[0,10]),([11,11,0,1,2,3,4,5,6,7,8,9,10,11],[0,11])])
def Rf_Spans.B6:List Nat:=[0,0,0,6,14,0,0,96,224,510,1022,2047,4095]
theorem Rf_Spans.tab6:rtab .any (opsOf Tryz.f30 6)=Rf_Spans.T6:=by kernel_rfl
theorem Rf_Spans.bits6:waitsOk Rf_Spans.T6.2 Rf_Spans.B6=true:=by kernel_rfl
theorem Rf_Spans.calls (k:Nat) (A0:Option Addr) (c0:Nat) (l0:List Int) (a1_0:Int) (a1_1:Int) (r:List (S74)) (w:World) (hr0:Kd.C (Kd.int .i64) w A0 l0.length l0) (hc0:l0.length≤c0) (H:Rf_Spans.f k l0 a1_0 a1_1=some r):
  Calls Tryz.prog 30 #[.slice A0 l0.length c0,.agg #[.int .i64 a1_0,.int .i64 a1_1]] w fun e w'=>∃ v0_:Value,e= .returned (v0_)∧Kd.R k74 74 w' w.heap.size (fun _=>True) v0_ r∧Below w.heap.size w w':=by
 have hu40:=Tryz.underlying40;have hu24:=Tryz.underlying24;have hu74:=Tryz.underlying74;have HR0:=m0 hr0;have HC0:=m0 hc0;clear hr0 hc0;have HB:=m0 (Below.refl w.heap.size w);unfold Rf_Spans.f at H;replace H:=oa H;obtain⟨t748,A3,H⟩:=H;(try dsimp only at H);replace H:=oa H;obtain⟨t751,A4,H⟩:=H;(try dsimp only at H);have H':=m0 H;clear H;go_enter Tryz.func30,Tryz.ntmps30
 try go_wp2_with (first|((with_reducible refine ga 3 rfl ?_);refine be 3 40 #[.int .i64 a1_0,.int .i64 a1_1] ?_;intro gb747 hg w5 hbox hb;have BK747:=m0 hbox;have GE747:=gw w hg;replace HB:=sb HB hb;clear hb hbox hg))
 replace BK747:=bd BK747;replace HB:=sd HB;refine start_ (n:=10) (S:=fun w'=>w'.cell? ⟨gb747,0,none⟩=some (.int .i64 a1_0)∧w'.cell? ⟨gb747,1,none⟩=some (.int .i64 a1_1)) (ds:=[]) _ (by kernel_rfl) rfl rfl cz (fun hH=>?_);refine with_tabW Rf_Spans.tab1 Rf_Spans.bits1 (fun HT_ HW_=>?_);generalize w5.drew=w6 at BK747 HB hH ⊢;refine pZ 0 (some 9) (bs 10 1) HT_ ?_;refine pZ 1 (some 10) (bs 10 3) HT_ ?_;refine pZ 4 (some 13) (bs 10 19) HT_ ?_;refine pZ 5 (some 14) (bs 10 51) HT_ ?_;refine takeZ 2 (some 11) (bs 10 55) (tw HT_ HW_) hH ?_;refine takeZ 6 (some 15) (bs 10 119) (tw HT_ HW_) hH ?_;refine oneZ 3 (some 12) (bs 10 127) (o1 HT_) fun K hK=>?_;refine gz Tryz.func64 #[.slice A0 l0.length c0,.int .i64 a1_1] ?_
 with_reducible refine(Rf_Shares.calls k _ _ l0 a1_1 t748 _ ?side1 ?side2 A3.out).mono ?_
 (case side1=>exact cb HR0 HB)
 (case side2=>exact HC0.out)
 rintro e w7 ⟨v749,rfl,ho0,hb⟩;refine⟨_,rfl,?_⟩;have HO750:=m0 (Kd.R_lower ho0 (below_size bz));replace BK747:=bb BK747 hb;replace HB:=sb HB hb;(try clear hb);(try clear ho0);refine hK.out _ _ cz (fun hH=>?_);clear hK K;refine nz 12 ?_;refine oneZ 7 (some 16) (bs 10 255) (o1 HT_) fun K hK=>?_;refine gz Tryz.func64 #[.slice A0 l0.length c0,.int .i64 a1_0] ?_
 with_reducible refine(Rf_Shares.calls k _ _ l0 a1_0 t751 _ ?side1 ?side2 A4.out).mono ?_
 (case side1=>exact cb HR0 HB)
 (case side2=>exact HC0.out)
 rintro e w8 ⟨v752,rfl,ho0,hb⟩;refine⟨_,rfl,?_⟩;have HO753:=m0 (Kd.R_lower (Kd.R_new' ho0 (Kd.R_lt (br HO750.out))) (below_size bz));replace HO750:=m0 (Kd.R_elder' (br HO750.out) (Kd.R_base ho0) hb);replace BK747:=bb BK747 hb;replace HB:=sb HB hb;(try clear hb);(try clear ho0);refine hK.out _ _ cz (fun hH=>?_);clear hK K;refine nz 16 ?_;refine pZ 8 (some 5) (bs 10 511) HT_ ?_;refine pZ 9 (some 6) (bs 10 1023) HT_ ?_;refine done_ (done_of HT_.out (by kernel_rfl)) ?_
 try go_wp2
 go_loopg [7,8] k (fun kq v7 v8 w'=>∃ (x7_1:List (S74)) (x8_1:Int),v8= .int .i64 x8_1∧Aside0 (Rf_Spans.l0 kq l0 t748 t751 x7_1 x8_1=some r)∧Aside0 (kq≤k)∧Aside0 (Kd.R k24 24 w' w.heap.size (fun k_=>some k_≠(v752:Value).ownBlock) v749 t748)∧Aside0 (Kd.R k24 24 w' w.heap.size (fun k_=>some k_≠(v749:Value).ownBlock) v752 t751)∧Aside0 (Kd.R k74 74 w' w.heap.size (fun _=>True) v7 x7_1)∧Aside0 (w'.heap[gb747]?=some (.cells #[.int .i64 a1_0,.int .i64 a1_1] 40 (0,0)))∧Aside0 (Below w.heap.size w w'))
 case atStart=>exact⟨(([]:List (S74))),(0),rz,H',⟨Nat.le_refl _⟩,⟨by (with_reducible repeat(first|apply Kd.R_alloc|apply Kd.R_drewN|apply Kd.R_drew));exact Kd.R_mono HO750.out (fun _ hk=>hk.2)⟩,⟨by (with_reducible repeat(first|apply Kd.R_alloc|apply Kd.R_drewN|apply Kd.R_drew));exact Kd.R_mono HO753.out (fun _ hk=>hk.2)⟩,⟨by first|exact Kd.R_nil _ _ _ _ _|exact Kd.N_nil _ _ _ _ _|exact Kd.V_nil _ _ _ _ _|exact Kd.Q_nil _ _ _ _ _|exact Kd.S_nil _ _ _ _ _⟩,⟨bk BK747.out⟩,⟨bz⟩⟩
 case round=>
  clear H';obtain⟨x7_1,x8_1,rfl,HA,HK1,HO_5,HO_6,HO_7,BK747,HB⟩:=hrel
  cases gk with
  |zero=>exact absurd HA.out (by simp[Rf_Spans.l0])
  | succ k1=>
   have H:=HA.out;clear HA;simp only[Rf_Spans.l0]at H
   by_cases c9:x8_1<(l0.length:Int)
   ·rw [if_pos c9]at H;have c9b0:=decide_eq_true c9;clear c9
    by_cases c10:0≤x8_1
    ·rw [if_pos c10]at H;have c10b0:=decide_eq_true c10;clear c10
     by_cases c11:x8_1<(t748.length:Int)
     ·rw [if_pos c11]at H;have c11b0:=decide_eq_true c11;clear c11
      by_cases c12:x8_1<(t751.length:Int)
      ·rw [if_pos c12]at H;have c12b0:=decide_eq_true c12;clear c12
       by_cases c13:x7_1.length<4398046511104
       ·rw [if_pos c13]at H;have LMc13:=m0 c13;clear c13;obtain⟨y756,hy756⟩:∃ y_:List (S74),y_=(x7_1++ [(⟨(⟨(rd_T24 t748 x8_1).f0,(rd_T24 t748 x8_1).f1⟩:S24),(⟨(rd_T24 t751 x8_1).f0,(rd_T24 t751 x8_1).f1⟩:S24)⟩:S74)]):=⟨_,rfl⟩;replace H:(Rf_Spans.l0 k1 l0 t748 t751 y756 (wrap64 (x8_1+1)))=some r:=hq hy756 H
        have Ny756:=m0 hy756;clear hy756;have H':=m0 H;clear H
        try go_wp2
        replace HO_5:=m0 (Kd.R_drew HO_5.out);replace HO_6:=m0 (Kd.R_drew HO_6.out);replace HO_7:=m0 (Kd.R_drew HO_7.out);replace BK747:=bd BK747;replace HB:=sd HB;obtain⟨Ao15,co15,eo15⟩:=Kd.R_slice HO_5.out;subst eo15;have p754:0≤(x8_1:Int):=od;have q754:x8_1<(t748.length:Int):=od;obtain⟨ad754,e754,hx754_0,hx754_1⟩:=at_T24 (Kd.R_reads' HO_5.out).2.2 x8_1 p754 q754
        cases e754
        replace p754:=eq_true p754;replace q754:=eq_true q754;obtain⟨Ao16,co16,eo16⟩:=Kd.R_slice HO_6.out;subst eo16;have p755:0≤(x8_1:Int):=od;have q755:x8_1<(t751.length:Int):=od;obtain⟨ad755,e755,hx755_0,hx755_1⟩:=at_T24 (Kd.R_reads' HO_6.out).2.2 x8_1 p755 q755
        cases e755
        replace p755:=eq_true p755;replace q755:=eq_true q755;refine start_ (n:=13) (S:=fun w'=>w'.cell? (ad754.add ((x8_1).toNat*2))=some (.int .i64 ((rd_T24 t748 x8_1).f0))∧w'.cell? ⟨(ad754.add ((x8_1).toNat*2)).block,(ad754.add ((x8_1).toNat*2)).off+1,none⟩=some (.int .i64 ((rd_T24 t748 x8_1).f1))∧w'.cell? (ad755.add ((x8_1).toNat*2))=some (.int .i64 ((rd_T24 t751 x8_1).f0))∧w'.cell? ⟨(ad755.add ((x8_1).toNat*2)).block,(ad755.add ((x8_1).toNat*2)).off+1,none⟩=some (.int .i64 ((rd_T24 t751 x8_1).f1))) (ds:=[10,11]) _ (by kernel_rfl) rfl rfl ⟨hx754_0,hx754_1,hx755_0,hx755_1⟩ (fun hH=>?_);refine with_tabW Rf_Spans.tab6 Rf_Spans.bits6 (fun HT_ HW_=>?_);generalize wr.drew=w14 at HO_5 HO_6 HO_7 BK747 HB hx754_0 hx754_1 hx755_0 hx755_1 hH ⊢;refine pZ 0 (some 23) (bs 13 1) HT_ ?_;refine pZ 1 (some 24) (bs 13 3) HT_ ?_;refine pZ 2 (some 25) (bs 13 7) HT_ ?_;refine pZ 3 (some 26) (bs 13 15) HT_ ?_;refine pZ 5 (some 28) (bs 13 47) HT_ ?_;refine pZ 6 (some 29) (bs 13 111) HT_ ?_;refine pZ 7 (some 30) (bs 13 239) HT_ ?_;refine takeZ 4 (some 27) (bs 13 255) (tw HT_ HW_) hH ?_;refine takeZ 8 (some 31) (bs 13 511) (tw HT_ HW_) hH ?_;refine pZ 9 (some 32) (bs 13 1023) HT_ ?_;refine last_ (i:=10) (N:=some 33) (bs 13 2047) rfl rfl (o1 HT_) (by decide) (fun K hK=>?_);refine value_ (w1:=?_) (v:=?_) (by rfl) rfl ?_ ?_;rotate_left 2
        ·go_simp
         constructor
         ·rfl
         ·rfl
        refine hK.out _ _ ?_;clear hK K;refine nz 33 ?_;refine last_ (i:=11) (N:=some 34) (bs 13 4095) rfl rfl (o1 HT_) (by decide) (fun K hK=>?_);refine Kd.R_append_step k74 (w0:=w) w.heap.size (by rfl) (.tmp 23) (.tmp 33) 58 74 (.agg #[(.int .i64 0),(.int .i64 0),(.int .i64 0),(.int .i64 0)]) 32 rfl Tryz.underlying58 info74 rfl (by decide) (by omega) u7 x7_1 (⟨(⟨(rd_T24 t748 x8_1).f0,(rd_T24 t748 x8_1).f1⟩:S24),(⟨(rd_T24 t751 x8_1).f0,(rd_T24 t751 x8_1).f1⟩:S24)⟩:S74) [.int .i64 ((rd_T24 t748 x8_1).f0),.int .i64 ((rd_T24 t748 x8_1).f1),.int .i64 ((rd_T24 t751 x8_1).f0),.int .i64 ((rd_T24 t751 x8_1).f1)] (fun _=>True) (fun _=>False) rfl rfl ?aP (fun _ hk=>hk.elim) ?aF ?aO ?aB ?aS ?aL ?_
        (case aP=>exact k74_mkM _ _ _ (⟨(⟨(rd_T24 t748 x8_1).f0,(rd_T24 t748 x8_1).f1⟩:S24),(⟨(rd_T24 t751 x8_1).f0,(rd_T24 t751 x8_1).f1⟩:S24)⟩:S74))
        (case aB=>exact bz)
        (case aF=>exact(fun _ _=>trivial))
        (case aO=>exact(br HO_7.out))
        (case aS=>exact(below_size bz))
        (case aL=>have:=LMc13.out;omega)
        intro v757 w17 ho hb hg hat;rw[← Ny756.out]at ho;have n0_:=m0 (Kd.R_over' (br HO_5.out) (Kd.R_typed (br HO_7.out)) (by decide) hg);have n1_:=m0 (Kd.R_over' (br HO_6.out) (Kd.R_typed (br HO_7.out)) (by decide) hg);have n2_:=m0 (blk_grown (g:=gb747) (o:= .cells #[.int .i64 a1_0,.int .i64 a1_1] 40 (0,0)) (bk BK747.out) hg (Kd.R_ne HO_7.out BK747.out (by decide)));have n3_:=m0 (hb);have n4_:=m0 (ho);clear HO_5 HO_6 BK747 HB HO_7;have HO_5:=n0_;have HO_6:=n1_;have BK747:=n2_;have HB:=n3_;have HO758:=n4_;clear n0_ n1_ n2_ n3_ n4_;clear ho hb hg hat;refine hK.out _ _ ?_;clear hK K;refine nz 34 ?_;refine pZ 12 (some 7) (bs 13 8191) HT_ ?_;refine done_ (done_of HT_.out (by kernel_rfl)) ?_
        try go_wp2
        go_roundg k1
        case measure=>have:=HK1.out;omega
        case rel=>exact⟨(y756),(wrap64 (x8_1+1)),rz,H',⟨by have:=HK1.out;omega⟩,⟨br HO_5.out⟩,⟨br HO_6.out⟩,⟨br HO758.out⟩,⟨bk BK747.out⟩,⟨bz⟩⟩
       ·rw [if_neg c13]at H;exact absurd H (by simp)
      ·rw [if_neg c12]at H;exact absurd H (by simp)
     ·rw [if_neg c11]at H;exact absurd H (by simp)
    ·rw [if_neg c10]at H;exact absurd H (by simp)
   ·rw [if_neg c9]at H;have c9b0:=decide_eq_false c9;clear c9;obtain rfl:=Option.some.inj H
    go_wp2
    go_ret
    exact⟨_,e4,by(with_reducible repeat(first|apply Kd.R_alloc|apply Kd.R_drewN|apply Kd.R_drew));exact HO_7.out,bz⟩
end
section
def Bs_IsLowest.f (k:Nat) (a0_0:Int) (a0_1:Int):Option (Bool):=if a0_1>0 then((Bs_Gcd.f k a0_0 a0_1).bind fun t439=>(some (t439==1)))else(some false)
theorem Bs_IsLowest.mono:∀ a0 a1 k,LeO (Bs_IsLowest.f k a0 a1) (Bs_IsLowest.f (k+1) a0 a1):=by
 intro a0 a1 k;unfold Bs_IsLowest.f
 have m1:=@Bs_Gcd.mono;exact lz
theorem Bs_IsLowest.calls (k:Nat) (a0_0:Int) (a0_1:Int) (r:Bool) (w:World) (H:Bs_IsLowest.f k a0_0 a0_1=some r):
  Calls Tryz.prog 54 #[.agg #[.int .i64 a0_0,.int .i64 a0_1]] w fun e w'=>e= .returned (.bool r)∧Below w.heap.size w w':=by
 have hu24:=Tryz.underlying24;have HB:=m0 (Below.refl w.heap.size w);unfold Bs_IsLowest.f at H
 by_cases c2:a0_1>0
 ·rw [if_pos c2]at H;have c2b0:=decide_eq_true c2;clear c2;replace H:=oa H;obtain⟨t439,A3,H⟩:=H;(try dsimp only at H);obtain rfl:=Option.some.inj H;go_enter Tryz.func54,Tryz.ntmps54
  go_wp2_with (first|((with_reducible refine ga 1 rfl ?_);refine be 1 24 #[.int .i64 a0_0,.int .i64 a0_1] ?_;intro gb438 hg w4 hbox hb;have BK438:=m0 hbox;have GE438:=gw w hg;replace HB:=sb HB hb;clear hb hbox hg;obtain⟨_,_,_,_⟩:=b2 BK438)|(go_at_call 82;(with_reducible refine(Bs_Gcd.calls k a0_0 a0_1 t439 _ A3.out).mono ?_);rintro e w6 ⟨rfl,hb⟩;replace BK438:=bb BK438 hb;replace HB:=sb HB hb;(try clear hb)))
  go_ret
  exact ez
 ·rw [if_neg c2]at H;have c2b0:=decide_eq_false c2;clear c2;obtain rfl:=Option.some.inj H;go_enter Tryz.func54,Tryz.ntmps54
  go_wp2_with (first|((with_reducible refine ga 1 rfl ?_);refine be 1 24 #[.int .i64 a0_0,.int .i64 a0_1] ?_;intro gb438 hg w7 hbox hb;have BK438:=m0 hbox;have GE438:=gw w hg;replace HB:=sb HB hb;clear hb hbox hg;obtain⟨_,_,_,_⟩:=b2 BK438))
  go_ret
  exact ez
end
section
def Rf_PartErr.f (k:Nat) (a0_0:Int) (a0_1:Int):Option (Int):=(Bs_IsLowest.f k a0_0 a0_1).bind fun t441=>(if t441=true then((Bs_Within.f a0_0 0 a0_1).bind fun t442=>(if t442=true then(if a0_1>1000000000 then(some 2)else(some 0))else(some 2)))else(some 3))
theorem Rf_PartErr.mono:∀ a0 a1 k,LeO (Rf_PartErr.f k a0 a1) (Rf_PartErr.f (k+1) a0 a1):=by
 intro a0 a1 k;unfold Rf_PartErr.f
 have m1:=@Bs_IsLowest.mono;exact lz
theorem Rf_PartErr.m1 {P:Prop} (h:P:=by
 go_wp2_with (first|((with_reducible refine ga 1 rfl ?_);refine be 1 24 #[.int .i64 a0_0,.int .i64 a0_1] ?_;intro gb440 hg w7 hbox hb;have BK440:=m0 hbox;have GE440:=gw w hg;replace HB:=sb HB hb;clear hb hbox hg;obtain⟨_,_,_,_⟩:=b2 BK440)|((with_reducible refine gc 54 rfl ?_);refine gl (some 4) Tryz.func54 #[.agg #[.int .i64 a0_0,.int .i64 a0_1]] ?_;(with_reducible refine(Bs_IsLowest.calls k a0_0 a0_1 true _ A2.out).mono ?_);rintro e w9 ⟨rfl,hb⟩;refine⟨_,rfl,?_⟩;replace BK440:=bb BK440 hb;replace HB:=sb HB hb;(try clear hb);obtain⟨_,_,_,_⟩:=b2 BK440)|((with_reducible refine gc 11 rfl ?_);refine gl (some 10) Tryz.func11 #[.int .i64 a0_0,.int .i64 0,.int .i64 a0_1] ?_;(with_reducible refine(Bs_Within.calls a0_0 0 a0_1 true _ A4.out).mono ?_);rintro e w' ⟨rfl,⟨nd,rfl⟩⟩;refine⟨_,rfl,?_⟩))
 go_ret
 exact ez):P:=h
theorem Rf_PartErr.calls (k:Nat) (a0_0:Int) (a0_1:Int) (r:Int) (w:World) (H:Rf_PartErr.f k a0_0 a0_1=some r):
  Calls Tryz.prog 15 #[.agg #[.int .i64 a0_0,.int .i64 a0_1]] w fun e w'=>e= .returned (.int .i64 r)∧Below w.heap.size w w':=by
 have hu24:=Tryz.underlying24;have HB:=m0 (Below.refl w.heap.size w);unfold Rf_PartErr.f at H;replace H:=oa H;obtain⟨t441,A2,H⟩:=H;(try dsimp only at H)
 by_cases c3:t441=true
 ·subst c3;rw[if_pos rfl]at H;replace H:=oa H;obtain⟨t442,A4,H⟩:=H;(try dsimp only at H)
  by_cases c5:t442=true
  ·subst c5;rw[if_pos rfl]at H
   by_cases c6:a0_1>1000000000
   ·rw [if_pos c6]at H;have c6b0:=decide_eq_true c6;clear c6;obtain rfl:=Option.some.inj H;go_enter Tryz.func15,Tryz.ntmps15
    exact Rf_PartErr.m1
   ·rw [if_neg c6]at H;have c6b0:=decide_eq_false c6;clear c6;obtain rfl:=Option.some.inj H;go_enter Tryz.func15,Tryz.ntmps15
    exact Rf_PartErr.m1
  ·replace c5:=Bool.eq_false_iff.mpr c5;subst c5;rw[if_neg (show ¬ (false=true) by decide)]at H;obtain rfl:=Option.some.inj H;go_enter Tryz.func15,Tryz.ntmps15
   go_wp2_with (first|((with_reducible refine ga 1 rfl ?_);refine be 1 24 #[.int .i64 a0_0,.int .i64 a0_1] ?_;intro gb440 hg w15 hbox hb;have BK440:=m0 hbox;have GE440:=gw w hg;replace HB:=sb HB hb;clear hb hbox hg;obtain⟨_,_,_,_⟩:=b2 BK440)|((with_reducible refine gc 54 rfl ?_);refine gl (some 4) Tryz.func54 #[.agg #[.int .i64 a0_0,.int .i64 a0_1]] ?_;(with_reducible refine(Bs_IsLowest.calls k a0_0 a0_1 true _ A2.out).mono ?_);rintro e w17 ⟨rfl,hb⟩;refine⟨_,rfl,?_⟩;replace BK440:=bb BK440 hb;replace HB:=sb HB hb;(try clear hb);obtain⟨_,_,_,_⟩:=b2 BK440)|((with_reducible refine gc 11 rfl ?_);refine gl (some 10) Tryz.func11 #[.int .i64 a0_0,.int .i64 0,.int .i64 a0_1] ?_;(with_reducible refine(Bs_Within.calls a0_0 0 a0_1 false _ A4.out).mono ?_);rintro e w' ⟨rfl,⟨nd,rfl⟩⟩;refine⟨_,rfl,?_⟩))
   go_ret
   exact ez
 ·replace c3:=Bool.eq_false_iff.mpr c3;subst c3;rw[if_neg (show ¬ (false=true) by decide)]at H;obtain rfl:=Option.some.inj H;go_enter Tryz.func15,Tryz.ntmps15
  go_wp2_with (first|((with_reducible refine ga 1 rfl ?_);refine be 1 24 #[.int .i64 a0_0,.int .i64 a0_1] ?_;intro gb440 hg w19 hbox hb;have BK440:=m0 hbox;have GE440:=gw w hg;replace HB:=sb HB hb;clear hb hbox hg;obtain⟨_,_,_,_⟩:=b2 BK440)|((with_reducible refine gc 54 rfl ?_);refine gl (some 4) Tryz.func54 #[.agg #[.int .i64 a0_0,.int .i64 a0_1]] ?_;(with_reducible refine(Bs_IsLowest.calls k a0_0 a0_1 false _ A2.out).mono ?_);rintro e w21 ⟨rfl,hb⟩;refine⟨_,rfl,?_⟩;replace BK440:=bb BK440 hb;replace HB:=sb HB hb;(try clear hb)))
  go_ret
  exact ez
end
section
def Rf_SharesErr.l0:Nat→List (S24)→Int→Option (Int)
  |0,_,_=>none
  |k+1,x0,x3=>if x3<(x0.length:Int)then(if 0≤x3 then((Rf_PartErr.f k ((rd_T24 x0 x3).f0) ((rd_T24 x0 x3).f1)).bind fun t760=>(if t760=0 then(Rf_SharesErr.l0 k x0 (wrap64 (x3+1)))else(some t760)))else(none))else(some 0)
def Rf_SharesErr.f (k:Nat) (l0:List (S24)):Option (Int):=if(l0.length:Int)=0 then(some 10)else(if(l0.length:Int)>24 then(some 8)else(Rf_SharesErr.l0 k l0 0))
theorem Rf_SharesErr.mono_l:∀ k,(∀ y0 y1,LeO (Rf_SharesErr.l0 k y0 y1) (Rf_SharesErr.l0 (k+1) y0 y1))
  |0=>fun _ _ r h=>by simp[Rf_SharesErr.l0]at h
  | k +1=>by
    have ih0:=Rf_SharesErr.mono_l k
    · intro y0 y1;unfold Rf_SharesErr.l0
      have m1:=@Rf_PartErr.mono;exact lz
theorem Rf_SharesErr.mono:∀ a0 k,LeO (Rf_SharesErr.f k a0) (Rf_SharesErr.f (k+1) a0):=by
  intro a0 k;have ih0:=Rf_SharesErr.mono_l k;unfold Rf_SharesErr.f
  have m1:=@Rf_PartErr.mono;exact lz
theorem Rf_SharesErr.calls (k:Nat) (A0:Option Addr) (c0:Nat) (l0:List (S24)) (r:Int) (w:World) (hr0:Kd.C k24 w A0 l0.length l0) (hc0:l0.length≤c0) (H:Rf_SharesErr.f k l0=some r):
    Calls Tryz.prog 31 #[.slice A0 l0.length c0] w fun e w'=>e= .returned (.int .i64 r)∧Below w.heap.size w w':=by
  have hu24:=Tryz.underlying24;have HR0:=m0 hr0;have HC0:=m0 hc0;clear hr0 hc0;have HB:=m0 (Below.refl w.heap.size w);unfold Rf_SharesErr.f at H
  by_cases c2:(l0.length:Int)=0
  · rw[if_pos c2]at H;have c2b0:=beq_iff_eq.mpr c2;have c2b1:=bne_eq_false_iff_eq.mpr c2;clear c2;obtain rfl:=Option.some.inj H;go_enter Tryz.func31,Tryz.ntmps31
    go_wp2
    go_ret
    exact ez
  · rw [if_neg c2]at H;have c2b0:=beq_eq_false_iff_ne.mpr c2;have c2b1:=bne_iff_ne.mpr c2;have c2b2:¬ (l0=[]):=fun h_=>c2 (by rw[h_];rfl)
    by_cases c3:(l0.length:Int)>24
    · rw[if_pos c3]at H;have c3b0:=decide_eq_true c3;have c3b1:decide (24<l0.length)=true:=decide_eq_true (by omega);clear c3;obtain rfl:=Option.some.inj H;go_enter Tryz.func31,Tryz.ntmps31
      go_wp2
      go_ret
      exact ez
    · rw [if_neg c3]at H;have c3b0:=decide_eq_false c3;have c3b1:decide (24<l0.length)=false:=decide_eq_false (by omega);clear c3;have H':=m0 H;clear H;go_enter Tryz.func31,Tryz.ntmps31
      go_wp2
      go_loopg [3] k (fun kq v3 w'=>∃ (x3_1:Int),v3= .int .i64 x3_1∧Aside0 (Rf_SharesErr.l0 kq l0 x3_1=some r)∧Aside0 (kq≤k)∧Aside0 (Below w.heap.size w w'))
      case atStart=>exact⟨(0),rz,H',⟨Nat.le_refl _⟩,⟨bz⟩⟩
      case round=>
        clear H';obtain⟨x3_1,rfl,HA,HK1,HB⟩:=hrel
        cases gk with
        |zero=>exact absurd HA.out (by simp[Rf_SharesErr.l0])
        | succ k1=>
          have H:=HA.out;clear HA;simp only[Rf_SharesErr.l0]at H
          by_cases c4:x3_1<(l0.length:Int)
          · rw [if_pos c4]at H;have c4b0:=decide_eq_true c4;clear c4
            by_cases c5:0≤x3_1
            · rw[if_pos c5]at H;have c5b0:=decide_eq_true c5;clear c5;replace H:=oa H;obtain⟨t760,A6,H⟩:=H;(try dsimp only at H);have p759:0≤(x3_1:Int):=od;have q759:x3_1<(l0.length:Int):=od;obtain⟨ad759,e759,hx759_0,hx759_1⟩:=at_T24 HR0.out x3_1 p759 q759
              cases e759
              replace hx759_0:=hc HB hx759_0;replace hx759_1:=hc HB hx759_1;replace p759:=eq_true p759;replace q759:=eq_true q759
              by_cases c7:t760=0
              · rw[if_pos c7]at H;have c7b0:=beq_iff_eq.mpr c7;have c7b1:=bne_eq_false_iff_eq.mpr c7;clear c7;have H':=m0 H;clear H
                go_wp2_with (first|((with_reducible refine gc 15 rfl ?_);refine gl (some 21) Tryz.func15 #[.agg #[.int .i64 ((rd_T24 l0 x3_1).f0),.int .i64 ((rd_T24 l0 x3_1).f1)]] ?_;(with_reducible refine(Rf_PartErr.calls k1 ((rd_T24 l0 x3_1).f0) ((rd_T24 l0 x3_1).f1) t760 _ A6.out).mono ?_);rintro e w8 ⟨rfl,hb⟩;refine⟨_,rfl,?_⟩;replace HB:=sb HB hb;(try clear hb)))
                go_roundg k1
                case measure=>have:=HK1.out;omega
                case rel=>exact⟨(wrap64 (x3_1+1)),rz,H',⟨by have:=HK1.out;omega⟩,⟨bz⟩⟩
              · rw[if_neg c7]at H;have c7b0:=beq_eq_false_iff_ne.mpr c7;have c7b1:=bne_iff_ne.mpr c7;obtain rfl:=Option.some.inj H
                go_wp2_with (first|((with_reducible refine gc 15 rfl ?_);refine gl (some 21) Tryz.func15 #[.agg #[.int .i64 ((rd_T24 l0 x3_1).f0),.int .i64 ((rd_T24 l0 x3_1).f1)]] ?_;(with_reducible refine(Rf_PartErr.calls k1 ((rd_T24 l0 x3_1).f0) ((rd_T24 l0 x3_1).f1) t760 _ A6.out).mono ?_);rintro e w9 ⟨rfl,hb⟩;refine⟨_,rfl,?_⟩;replace HB:=sb HB hb;(try clear hb)))
                go_ret
                exact ez
            · rw[if_neg c5]at H;exact absurd H (by simp)
          · rw[if_neg c4]at H;have c4b0:=decide_eq_false c4;clear c4;obtain rfl:=Option.some.inj H
            go_wp2
            go_ret
            exact ez
end
section
def Bs_trimmed.l0:Nat→List Int→Int→Option (List Int)
 |0,_,_=>none
 |k+1,x0,x3=>if x3>0 then(if 0≤(wrap64 (x3-1))then(if(wrap64 (x3-1))<(x0.length:Int)then(if(rd x0 (wrap64 (x3-1)))=0 then(Bs_trimmed.l0 k x0 (wrap64 (x3-1)))else(if 0≤x3 then(if x3≤(x0.length:Int)then(some (x0.take (x3:Int).toNat))else(none))else(none)))else(none))else(none))else(if 0≤x3 then(if x3≤(x0.length:Int)then(some (x0.take (x3:Int).toNat))else(none))else(none))
def Bs_trimmed.f (k:Nat) (l0:List Int):Option (List Int):=Bs_trimmed.l0 k l0 (l0.length:Int)
theorem Bs_trimmed.mono_l:∀ k,(∀ y0 y1,LeO (Bs_trimmed.l0 k y0 y1) (Bs_trimmed.l0 (k+1) y0 y1))
 |0=>fun _ _ r h=>by simp[Bs_trimmed.l0]at h
 | k+1=>by
  have ih0:=Bs_trimmed.mono_l k
  ·intro y0 y1;unfold Bs_trimmed.l0
   exact lz
theorem Bs_trimmed.mono:∀ a0 k,LeO (Bs_trimmed.f k a0) (Bs_trimmed.f (k+1) a0):=by
 intro a0 k;have ih0:=Bs_trimmed.mono_l k;unfold Bs_trimmed.f
 exact lz
theorem Bs_trimmed.calls (k:Nat) (P0_:Nat→Prop) (A0:Option Addr) (c0:Nat) (l0:List Int) (r:List Int) (w:World) (hs0:Kd.V (Kd.int .i64) 3 w w.heap.size (fun k_=>P0_ k_) (.slice A0 l0.length c0) l0) (H:Bs_trimmed.f k l0=some r):
  Calls Tryz.prog 134 #[.slice A0 l0.length c0] w fun e w'=>∃ v0_:Value,e= .returned (v0_)∧Kd.V (Kd.int .i64) 3 w' w.heap.size (fun k_=>(P0_ k_∨w.heap.size≤k_)) v0_ r∧Below w.heap.size w w':=by
 have HO0:=m0 (show Kd.V (Kd.int .i64) 3 w w.heap.size (fun k_=>(P0_ k_∨w.heap.size≤k_)) (.slice A0 l0.length c0) l0 from Kd.V_mono hs0 (fun k_ hk=> .inl hk));have HB:=m0 (Below.refl w.heap.size w);unfold Bs_trimmed.f at H;have H':=m0 H;clear H;go_enter Tryz.func134,Tryz.ntmps134
 go_wp2
 go_loopg [3] k (fun kq v3 w'=>∃ (x3_1:Int),v3= .int .i64 x3_1∧Aside0 (Bs_trimmed.l0 kq l0 x3_1=some r)∧Aside0 (kq≤k)∧Aside0 (Kd.V (Kd.int .i64) 3 w' w.heap.size (fun k_=>(P0_ k_∨w.heap.size≤k_)) (.slice A0 l0.length c0) l0)∧Aside0 (Below w.heap.size w w'))
 case atStart=>exact⟨((l0.length:Int)),rz,H',⟨Nat.le_refl _⟩,⟨by (with_reducible repeat(first|apply Kd.V_alloc|apply Kd.V_drewN|apply Kd.V_drew));exact HO0.out⟩,⟨bz⟩⟩
 case round=>
  clear H';obtain⟨x3_1,rfl,HA,HK1,HO_0,HB⟩:=hrel
  cases gk with
  |zero=>exact absurd HA.out (by simp[Bs_trimmed.l0])
  | succ k1=>
   have H:=HA.out;clear HA;simp only[Bs_trimmed.l0]at H
   by_cases c2:x3_1>0
   ·rw [if_pos c2]at H;have c2b0:=decide_eq_true c2;clear c2;obtain⟨ji3,hji3⟩:∃ j_:Int,(wrap64 (x3_1-1))=j_:=⟨_,rfl⟩;replace H:(if 0≤(ji3)then(if(ji3)<(l0.length:Int)then(if(rd l0 (ji3))=0 then(Bs_trimmed.l0 k1 l0 ji3)else(if 0≤x3_1 then(if x3_1≤(l0.length:Int)then(some (l0.take (x3_1:Int).toNat))else(none))else(none)))else(none))else(none))=some r:=by first|(rw[hji3]at H;exact H)|(simp only[hji3]at H ⊢;exact H)
    have hji3w:(IntKind.i64.wrap (x3_1-1))=ji3:=(i64_w _).trans hji3
    by_cases c4:0≤(ji3)
    ·rw [if_pos c4]at H;have c4b0:=decide_eq_true c4;clear c4
     by_cases c5:(ji3)<(l0.length:Int)
     ·rw [if_pos c5]at H;have c5b0:=decide_eq_true c5;clear c5
      by_cases c6:(rd l0 (ji3))=0
      ·rw [if_pos c6]at H;have c6b0:=beq_iff_eq.mpr c6;have c6b1:=bne_eq_false_iff_eq.mpr c6;clear c6;have H':=m0 H;clear H;have p761:0≤((ji3):Int):=od;have q761:(ji3)<(l0.length:Int):=od;obtain⟨ad761,e761,hx761_0⟩:=Kd.at_int (Kd.V_reads' HO_0.out).2.2 (ji3) p761 q761
       cases e761
       replace p761:=eq_true p761;replace q761:=eq_true q761
       go_wp2
       go_roundg k1
       case measure=>have:=HK1.out;omega
       case rel=>exact⟨(ji3),(by first|rfl|(simp;done)|(simp only[← hji3]<;>(first|rfl|simp))|(simp[*];done)),H',⟨by have:=HK1.out;omega⟩,⟨by (with_reducible repeat(first|apply Kd.V_alloc|apply Kd.V_drewN|apply Kd.V_drew));exact HO_0.out⟩,⟨bz⟩⟩
      ·rw [if_neg c6]at H;have c6b0:=beq_eq_false_iff_ne.mpr c6;have c6b1:=bne_iff_ne.mpr c6
       by_cases c7:0≤x3_1
       ·rw [if_pos c7]at H;have c7b0:=eq_true c7;have c7b1:=decide_eq_true c7;clear c7
        by_cases c8:x3_1≤(l0.length:Int)
        ·rw [if_pos c8]at H;have c8b0:=eq_true c8;have c8b1:=decide_eq_true c8;clear c8;obtain⟨y762,hy762⟩:∃ y_:List Int,y_=(l0.take (x3_1:Int).toNat):=⟨_,rfl⟩;replace H:(some y762)=some r:=hq hy762 H
         have Ny762:=m0 hy762;clear hy762;obtain rfl:=Option.some.inj H;have p761:0≤((ji3):Int):=od;have q761:(ji3)<(l0.length:Int):=od;obtain⟨ad761,e761,hx761_0⟩:=Kd.at_int (Kd.V_reads' HO_0.out).2.2 (ji3) p761 q761
         cases e761
         replace p761:=eq_true p761;replace q761:=eq_true q761;have q9:(x3_1:Int)≤((l0.length:Int):Int):=od;obtain⟨i09,hi09,_,hsz9,_⟩:=info_parts info3;have hroom9:l0.length≤c0:=(Kd.V_reads' HO_0.out).2.1;have hC9:Kd.F (Kd.int .i64) _ _ (some ad761) l0.length l0:=(Kd.V_at (base:=w.heap.size) HO_0.out).2.2;have hcut9:=cut_to (P:=Tryz.prog) 22 3 .i64 Tryz.underlying22 hi09 (some ad761) l0.length c0 x3_1 (od) q9 hroom9;have hr9:=Kd.F_take (m:=(x3_1:Int).toNat) hC9 (by omega);have hy9:y762.length=(x3_1:Int).toNat:=(by rw[Ny762.out,List.length_take];omega);rw[← Ny762.out]at hr9;rw[← hy9]at hcut9;have HO766:=m0 (show Kd.V (Kd.int .i64) 3 _ w.heap.size _ (.slice (some ad761) y762.length c0) y762 from Kd.V_mk (by omega) hr9);have HC766:=m0 (show y762.length≤c0 from by omega);clear hr9 hC9 hroom9 hi09 hsz9;have KY9:=m0 hy9;clear hy9;replace q9:=eq_true q9
         go_wp2
         go_ret
         exact⟨_,by first|rfl|(simp[errW_none,errW_some]<;>rfl)|(simp only[← hji3];first|rfl|(simp[errW_none,errW_some]<;>rfl))|(simp[*,errW_none,errW_some]<;>rfl),by(with_reducible repeat(first|apply Kd.V_alloc|apply Kd.V_drewN|apply Kd.V_drew));exact HO766.out,bz⟩
        ·rw [if_neg c8]at H;exact absurd H (by simp)
       ·rw [if_neg c7]at H;exact absurd H (by simp)
     ·rw [if_neg c5]at H;exact absurd H (by simp)
    ·rw [if_neg c4]at H;exact absurd H (by simp)
   ·rw [if_neg c2]at H;have c2b0:=decide_eq_false c2;clear c2
    by_cases c10:0≤x3_1
    ·rw [if_pos c10]at H;have c10b0:=eq_true c10;have c10b1:=decide_eq_true c10;clear c10
     by_cases c11:x3_1≤(l0.length:Int)
     ·rw [if_pos c11]at H;have c11b0:=eq_true c11;have c11b1:=decide_eq_true c11;clear c11;obtain⟨y767,hy767⟩:∃ y_:List Int,y_=(l0.take (x3_1:Int).toNat):=⟨_,rfl⟩;replace H:(some y767)=some r:=hq hy767 H
      have Ny767:=m0 hy767;clear hy767;obtain rfl:=Option.some.inj H;have q12:(x3_1:Int)≤((l0.length:Int):Int):=od;obtain⟨i012,hi012,_,hsz12,_⟩:=info_parts info3;have hroom12:l0.length≤c0:=(Kd.V_reads' HO_0.out).2.1;have hC12:Kd.F (Kd.int .i64) _ _ A0 l0.length l0:=(Kd.V_at (base:=w.heap.size) HO_0.out).2.2;have hcut12:=cut_to (P:=Tryz.prog) 22 3 .i64 Tryz.underlying22 hi012 A0 l0.length c0 x3_1 (od) q12 hroom12;have hr12:=Kd.F_take (m:=(x3_1:Int).toNat) hC12 (by omega);have hy12:y767.length=(x3_1:Int).toNat:=(by rw[Ny767.out,List.length_take];omega);rw[← Ny767.out]at hr12;rw[← hy12]at hcut12;have HO771:=m0 (show Kd.V (Kd.int .i64) 3 _ w.heap.size _ (.slice A0 y767.length c0) y767 from Kd.V_mk (by omega) hr12);have HC771:=m0 (show y767.length≤c0 from by omega);clear hr12 hC12 hroom12 hi012 hsz12;have KY12:=m0 hy12;clear hy12;replace q12:=eq_true q12
      go_wp2
      go_ret
      exact⟨_,e4,by(with_reducible repeat(first|apply Kd.V_alloc|apply Kd.V_drewN|apply Kd.V_drew));exact HO771.out,bz⟩
     ·rw [if_neg c11]at H;exact absurd H (by simp)
    ·rw [if_neg c10]at H;exact absurd H (by simp)
end
section
def Bs_wideOf.f (k:Nat) (a0:Int) (l1:List Int):Option (Int×List Int):=(Bs_trimmed.f k l1).bind fun t773=>(if(t773.length:Int)=0 then(some (0,t773))else(some (a0,t773)))
theorem Bs_wideOf.mono:∀ a0 a1 k,LeO (Bs_wideOf.f k a0 a1) (Bs_wideOf.f (k+1) a0 a1):=by
 intro a0 a1 k;unfold Bs_wideOf.f
 have m1:=@Bs_trimmed.mono;exact lz
theorem Bs_wideOf.calls (k:Nat) (a0:Int) (P1_:Nat→Prop) (A1:Option Addr) (c1:Nat) (l1:List Int) (r1:Int) (r2:List Int) (w:World) (hs1:Kd.V (Kd.int .i64) 3 w w.heap.size (fun k_=>P1_ k_) (.slice A1 l1.length c1) l1) (H:Bs_wideOf.f k a0 l1=some (r1,r2)):
  Calls Tryz.prog 119 #[.int .i64 a0,.slice A1 l1.length c1] w fun e w'=>∃ v1_:Value,e= .returned (.agg #[.int .i64 r1,v1_])∧Kd.V (Kd.int .i64) 3 w' w.heap.size (fun k_=>(P1_ k_∨w.heap.size≤k_)) v1_ r2∧Below w.heap.size w w':=by
 have hu118:=Tryz.underlying118;have HO1:=m0 (show Kd.V (Kd.int .i64) 3 w w.heap.size (fun k_=>(P1_ k_∨w.heap.size≤k_)) (.slice A1 l1.length c1) l1 from Kd.V_mono hs1 (fun k_ hk=> .inl hk));have HB:=m0 (Below.refl w.heap.size w);unfold Bs_wideOf.f at H;replace H:=oa H;obtain⟨t773,A3,H⟩:=H;(try dsimp only at H)
 by_cases c4:(t773.length:Int)=0
 ·rw [if_pos c4]at H;have c4b0:=beq_iff_eq.mpr c4;have c4b1:=bne_eq_false_iff_eq.mpr c4;clear c4;simp only[Option.some.injEq,Prod.mk.injEq]at H;obtain⟨rfl,rfl⟩:=H;go_enter Tryz.func119,Tryz.ntmps119
  go_wp2_with (first|((with_reducible refine ga 4 rfl ?_);refine be 4 118 #[.int .i64 0,.slice none 0 0] ?_;intro gb772 hg w5 hbox hb;replace HO1:=ve HO1 hg hb;have BK772:=m0 hbox;have GE772:=gw w hg;replace HB:=sb HB hb;clear hb hbox hg)|((with_reducible refine gc 134 rfl ?_);refine gl (some 6) Tryz.func134 #[.slice A1 l1.length c1] ?_;(with_reducible refine(Bs_trimmed.calls k (fun k_=>((P1_ k_∨w.heap.size≤k_)∧k_≠gb772)) _ _ l1 t773 _ ?side1 A3.out).mono ?_);(case side1=>exact HO1.out);rintro e w6 ⟨v774,rfl,ho0,hb⟩;refine⟨_,rfl,?_⟩;replace HO1:=vb HO1 hb;have HO775:=hv w (fun k_=>(P1_ k_∨w.heap.size≤k_)∧k_≠gb772) ho0 (fun k_ hk_=>⟨Or.elim hk_ (·.1) (fs ·),Or.elim hk_ (·.2) (fb BK772 ·)⟩);replace BK772:=bb BK772 hb;replace HB:=sb HB hb;(try clear hb);(try clear ho0);obtain⟨Ao7,co7,eo7⟩:=Kd.V_slice HO775.out;subst eo7;obtain⟨_,_,_,_⟩:=b2 BK772))
  refine bodyPost_ret (results_cell_row rfl _ _ gb772 118 #[.int .i64 0,.slice Ao7 t773.length co7] (0,0) _ rfl (bq BK772.out) Tryz.underlying118 rfl (by kernel_rfl)) rfl ?_;exact⟨_,e4,by(with_reducible repeat(first|apply Kd.V_alloc|apply Kd.V_drewN|apply Kd.V_drew));exact Kd.V_mono (vf (vf (vn gb772 HO775.out (·.2)) (·.2)) (·.2)) (fun _ hk=>hk.1.1),bz⟩
 ·rw [if_neg c4]at H;have c4b0:=beq_eq_false_iff_ne.mpr c4;have c4b1:=bne_iff_ne.mpr c4;have c4b2:¬ (t773=[]):=fun h_=>c4 (by rw[h_];rfl);simp only[Option.some.injEq,Prod.mk.injEq]at H;obtain⟨rfl,rfl⟩:=H;go_enter Tryz.func119,Tryz.ntmps119
  go_wp2_with (first|((with_reducible refine ga 4 rfl ?_);refine be 4 118 #[.int .i64 0,.slice none 0 0] ?_;intro gb772 hg w9 hbox hb;replace HO1:=ve HO1 hg hb;have BK772:=m0 hbox;have GE772:=gw w hg;replace HB:=sb HB hb;clear hb hbox hg)|((with_reducible refine gc 134 rfl ?_);refine gl (some 6) Tryz.func134 #[.slice A1 l1.length c1] ?_;(with_reducible refine(Bs_trimmed.calls k (fun k_=>((P1_ k_∨w.heap.size≤k_)∧k_≠gb772)) _ _ l1 t773 _ ?side1 A3.out).mono ?_);(case side1=>exact HO1.out);rintro e w10 ⟨v774,rfl,ho0,hb⟩;refine⟨_,rfl,?_⟩;replace HO1:=vb HO1 hb;have HO775:=hv w (fun k_=>(P1_ k_∨w.heap.size≤k_)∧k_≠gb772) ho0 (fun k_ hk_=>⟨Or.elim hk_ (·.1) (fs ·),Or.elim hk_ (·.2) (fb BK772 ·)⟩);replace BK772:=bb BK772 hb;replace HB:=sb HB hb;(try clear hb);(try clear ho0);obtain⟨Ao11,co11,eo11⟩:=Kd.V_slice HO775.out;subst eo11;obtain⟨_,_,_,_⟩:=b2 BK772))
  refine bodyPost_ret (results_cell_row rfl _ _ gb772 118 #[.int .i64 a0,.slice Ao11 t773.length co11] (0,0) _ rfl (bq BK772.out) Tryz.underlying118 rfl (by kernel_rfl)) rfl ?_;exact⟨_,e4,by(with_reducible repeat(first|apply Kd.V_alloc|apply Kd.V_drewN|apply Kd.V_drew));exact Kd.V_mono (vf (vf (vn gb772 HO775.out (·.2)) (·.2)) (·.2)) (fun _ hk=>hk.1.1),bz⟩
end
end Go.Proofs.YteiafijbgjgiaaaGreat.A
