/- Walks of the program's functions (printed, made shorter), each with what it computes. -/
import Derived.Test.YteiafijbgjgiaaaGreatP20
namespace Go.Proofs.YteiafijbgjgiaaaGreat.A
set_option maxHeartbeats 8000000
set_option maxRecDepth 100000
open Go.RowKit Go.Proofs.YteiafijbgjgiaaaGreatW.PrintWords Go.Proofs.YteiafijbgjgiaaaGreatW.PrintLast Go.Proofs.YteiafijbgjgiaaaGreatW.PrintMore
attribute [local go_sem] max2_int min2_int max_two min_two max_three min_three max_four min_four
set_option linter.unusedVariables false
set_option linter.unusedSimpArgs false
section
mutual
def Bs_WideOf.j0:Nat→Int→Int→Option (Int×List Int)
  |0,_,_=>none
  |k+1,x0,x3=>Bs_WideOf.l0 k x0 x3 ([]:List Int)
def Bs_WideOf.l0:Nat→Int→Int→List Int→Option (Int×List Int)
  |0,_,_,_=>none
  |k+1,x0,x3,x4=>if x0=0 then((Bs_wideOf.f k x3 x4).bind fun bt777=>(some (bt777.1,bt777.2)))else((Bs_Size.f (Int.tmod x0 1000000000)).bind fun t781=>(if x4.length<17592186044416 then(Bs_WideOf.l0 k (wrap64 (Int.tdiv x0 1000000000)) x3 (x4++ [t781]))else(none)))
end
def Bs_WideOf.f (k:Nat) (a0:Int):Option (Int×List Int):=if a0<0 then(Bs_WideOf.j0 k a0 (-1))else(Bs_WideOf.j0 k a0 1)
theorem Bs_WideOf.mono_l:∀ k,(∀ y0 y1,LeO (Bs_WideOf.j0 k y0 y1) (Bs_WideOf.j0 (k+1) y0 y1))∧(∀ y0 y1 y2,LeO (Bs_WideOf.l0 k y0 y1 y2) (Bs_WideOf.l0 (k+1) y0 y1 y2))
  |0=>⟨fun _ _ r h=>by simp[Bs_WideOf.j0]at h,fun _ _ _ r h=>by simp[Bs_WideOf.l0]at h⟩
  | k +1=>by
    obtain⟨ih0,ih1⟩:=Bs_WideOf.mono_l k;refine⟨?_,?_⟩
    · intro y0 y1;unfold Bs_WideOf.j0
      have m1:=@Bs_wideOf.mono;exact lz
    · intro y0 y1 y2;unfold Bs_WideOf.l0
      have m1:=@Bs_wideOf.mono;exact lz
theorem Bs_WideOf.mono:∀ a0 k,LeO (Bs_WideOf.f k a0) (Bs_WideOf.f (k+1) a0):=by
  intro a0 k;obtain⟨ih0,ih1⟩:=Bs_WideOf.mono_l k;unfold Bs_WideOf.f
  have m1:=@Bs_wideOf.mono;exact lz
theorem Bs_WideOf.calls (k:Nat) (a0:Int) (r1:Int) (r2:List Int) (w:World) (H:Bs_WideOf.f k a0=some (r1,r2)):
    Calls Tryz.prog 91 #[.int .i64 a0] w fun e w'=>∃ v1_:Value,e= .returned (.agg #[.int .i64 r1,v1_])∧Kd.V (Kd.int .i64) 3 w' w.heap.size (fun k_=>(w.heap.size≤k_)) v1_ r2∧Below w.heap.size w w':=by
  have hu118:=Tryz.underlying118;have HB:=m0 (Below.refl w.heap.size w);unfold Bs_WideOf.f at H;have HC2:=m0 H;clear H;go_enter Tryz.func91,Tryz.ntmps91
  go_upto_if 6 with (first|((with_reducible refine ga 2 rfl ?_);refine be 2 118 #[.int .i64 0,.slice none 0 0] ?_;intro gb776 hg w3 hbox hb;have BK776:=m0 hbox;have GE776:=gw w hg;replace HB:=sb HB hb;clear hb hbox hg))
  (try simp only[Act.put,List.setIfInBounds_toArray,List.set_cons_zero,List.set_cons_succ])
  go_cut [3] (fun v3 wc=>∃ (kq:Nat) (x3_1:Int),v3= .int .i64 x3_1∧Aside0 (Bs_WideOf.j0 kq a0 x3_1=some (r1,r2))∧Aside0 (kq≤k)∧Aside0 (wc.heap[gb776]?=some (.cells #[.int .i64 0,(.slice none 0 0)] 118 (0,0)))∧Aside0 (Below w.heap.size w wc))
  case first=>
    have H:=HC2.out;clear HC2
    by_cases c4:a0<0
    · rw[if_pos c4]at H;have c4b0:=decide_eq_true c4;clear c4
      (first|rw[c4b0]|(simp only[i64_w,i32_w];rw[c4b0])|skip)
      have H':=m0 H;clear H
      go_wp2
      go_meet
      case rel=>exact⟨_,((-1)),rz,H',⟨by first|omega|exact Nat.le_refl _⟩,⟨bk BK776.out⟩,⟨bz⟩⟩
    · rw[if_neg c4]at H;have c4b0:=decide_eq_false c4;clear c4
      (first|rw[c4b0]|(simp only[i64_w,i32_w];rw[c4b0])|skip)
      have H':=m0 H;clear H
      go_wp2
      go_meet
      case rel=>exact⟨_,(1),rz,H',⟨by first|omega|exact Nat.le_refl _⟩,⟨bk BK776.out⟩,⟨bz⟩⟩
  case rest =>
    clear HC2;obtain⟨kq,x3_1,rfl,HA,HJ1,BK776,HB⟩:=hcut
    cases kq with
    |zero=>exact absurd HA.out (by simp[Bs_WideOf.j0])
    | succ kj1=>
      have H:=HA.out;clear HA;simp only[Bs_WideOf.j0]at H;have H':=m0 H;clear H
      go_wp2
      go_loopg [0,4] kj1 (fun kq v0 v4 w'=>∃ (x0_2:Int) (x4_2:List Int),v0= .int .i64 x0_2∧Aside0 (Bs_WideOf.l0 kq x0_2 x3_1 x4_2=some (r1,r2))∧Aside0 (kq≤kj1)∧Aside0 (Kd.R (Kd.int .i64) 3 w' w.heap.size (fun k_=>(w.heap.size≤k_)) v4 x4_2)∧Aside0 (w'.heap[gb776]?=some (.cells #[.int .i64 0,(.slice none 0 0)] 118 (0,0)))∧Aside0 (Below w.heap.size w w'))
      case atStart=>exact⟨(a0),(([]:List Int)),rz,H',⟨Nat.le_refl _⟩,⟨by first|exact Kd.R_nil _ _ _ _ _|exact Kd.N_nil _ _ _ _ _|exact Kd.V_nil _ _ _ _ _|exact Kd.Q_nil _ _ _ _ _|exact Kd.S_nil _ _ _ _ _⟩,⟨bk BK776.out⟩,⟨bz⟩⟩
      case round=>
        clear H';obtain⟨x0_2,x4_2,rfl,HA,HK2,HO_4,BK776,HB⟩:=hrel
        cases gk with
        |zero=>exact absurd HA.out (by simp[Bs_WideOf.l0])
        | succ k2=>
          have H:=HA.out;clear HA;simp only[Bs_WideOf.l0]at H
          by_cases c5:x0_2=0
          · rw[if_pos c5]at H;have c5b0:=beq_iff_eq.mpr c5;have c5b1:=bne_eq_false_iff_eq.mpr c5;clear c5;replace H:=oa H;obtain⟨⟨t777,t778⟩,A6,H⟩:=H;(try dsimp only at H);simp only[Option.some.injEq,Prod.mk.injEq]at H;obtain⟨rfl,rfl⟩:=H;obtain⟨Ao7,co7,eo7⟩:=Kd.R_slice HO_4.out;subst eo7
            go_wp2_with (first|((with_reducible refine gc 119 rfl ?_);refine gl (some 19) Tryz.func119 #[.int .i64 x3_1,.slice Ao7 x4_2.length co7] ?_;(with_reducible refine(Bs_wideOf.calls k2 x3_1 (fun k_=>some k_=(.slice Ao7 x4_2.length co7:Value).ownBlock) _ _ x4_2 t777 t778 _ ?side1 A6.out).mono ?_);(case side1=>exact Kd.R_V (Kd.R_tight rfl (Kd.R_types (HO_4.out) BK776.out (by decide))));rintro e w8 ⟨v779,rfl,ho0,hb⟩;refine⟨_,rfl,?_⟩;have HO780:=hv w (fun k_=>(w.heap.size≤k_)∧k_≠gb776) ho0 (fun k_ hk_=>⟨Or.elim hk_ (fun hs_=>((Kd.R_types (HO_4.out) BK776.out (by decide)).1 k_ hs_.symm).1) (fun hn_=>(Nat.le_trans (below_size bz) hn_)),Or.elim hk_ (fun hs_=>((Kd.R_types (HO_4.out) BK776.out (by decide)).1 k_ hs_.symm).2) (fb BK776 ·)⟩);replace HO_4:=rb HO_4 hb;replace BK776:=bb BK776 hb;replace HB:=sb HB hb;(try clear hb);(try clear ho0);obtain⟨_,_,_,_⟩:=b2 BK776;obtain⟨Ao10,co10,eo10⟩:=Kd.V_slice HO780.out;subst eo10))
            refine bodyPost_ret (results_cell_row rfl _ _ gb776 118 #[.int .i64 t777,.slice Ao10 t778.length co10] (0,0) _ rfl (bq BK776.out) Tryz.underlying118 rfl (by kernel_rfl)) rfl ?_;exact⟨_,e4,by(with_reducible repeat(first|apply Kd.V_alloc|apply Kd.V_drewN|apply Kd.V_drew));exact Kd.V_mono (vf (vf (vn gb776 HO780.out (·.2)) (·.2)) (·.2)) (fun _ hk=>hk.1.1),bz⟩
          · rw[if_neg c5]at H;have c5b0:=beq_eq_false_iff_ne.mpr c5;have c5b1:=bne_iff_ne.mpr c5;replace H:=oa H;obtain⟨t781,A11,H⟩:=H;(try dsimp only at H)
            by_cases c12:x4_2.length<17592186044416
            · rw[if_pos c12]at H;have LMc12:=m0 c12;clear c12;obtain⟨y782,hy782⟩:∃ y_:List Int,y_=(x4_2++ [t781]):=⟨_,rfl⟩;replace H:(Bs_WideOf.l0 k2 (wrap64 (Int.tdiv x0_2 1000000000)) x3_1 y782)=some (r1,r2):=hq hy782 H
              have Ny782:=m0 hy782;clear hy782;have H':=m0 H;clear H
              go_wp2_with (first|((with_reducible refine gc 117 rfl ?_);refine gl (some 12) Tryz.func117 #[.int .i64 (Int.tmod x0_2 1000000000)] ?_;(with_reducible refine(Bs_Size.calls (Int.tmod x0_2 1000000000) t781 _ A11.out).mono ?_);rintro e w13 ⟨rfl,hb⟩;refine⟨_,rfl,?_⟩;replace HO_4:=rb HO_4 hb;replace BK776:=bb BK776 hb;replace HB:=sb HB hb;(try clear hb))|((with_reducible refine gate_builtin (b:= .append) (xs:= #[.tmp 9,.tmp 13]) rfl ?_);at_builtin;refine Kd.R_append (Kd.int .i64) (w0:=w) w.heap.size rfl (.tmp 9) (.tmp 13) 22 3 (.int .i64 0) 8 rfl Tryz.underlying22 info3 rfl (by decide) (by omega) u4 x4_2 t781 [.int .i64 t781] (fun k_=>(w.heap.size≤k_)) (fun _=>False) rfl rfl ?aP (fun _ hk=>hk.elim) ?aF ?aO ?aB ?aS ?aL ?_;(case aP=>exact rfl);(case aB=>exact bz);(case aF=>exact(fun k_ hk=>(Nat.le_trans (below_size bz) hk)));(case aO=>exact(br HO_4.out));(case aS=>exact(below_size bz));(case aL=>have:=LMc12.out;omega);intro v783 w14 ho hb hg hat;rw[← Ny782.out]at ho;have n0_:=m0 (blk_grown (g:=gb776) (o:= .cells #[.int .i64 0,.slice none 0 0] 118 (0,0)) (bk BK776.out) hg (Kd.R_ne HO_4.out BK776.out (by decide)));have n1_:=m0 (hb);have n2_:=m0 (ho);clear BK776 HB HO_4;have BK776:=n0_;have HB:=n1_;have HO784:=n2_;clear n0_ n1_ n2_;clear ho hb hg hat))
              go_roundg k2
              case measure=>have:=HJ1.out;have:=HK2.out;omega
              case rel=>exact⟨(wrap64 (Int.tdiv x0_2 1000000000)),(y782),rz,H',⟨by have:=HJ1.out;have:=HK2.out;omega⟩,⟨br HO784.out⟩,⟨bk BK776.out⟩,⟨bz⟩⟩
            · rw[if_neg c12]at H;exact absurd H (by simp)
end
section
def Bs_RatioInt.f (k:Nat) (a0:Int):Option (Int×List Int×Int×List Int):=(Bs_WideOf.f k a0).bind fun bt786=>((Bs_WideOf.f k 1).bind fun bt790=>(some (bt786.1,bt786.2,bt790.1,bt790.2)))
theorem Bs_RatioInt.mono:∀ a0 k,LeO (Bs_RatioInt.f k a0) (Bs_RatioInt.f (k+1) a0):=by
 intro a0 k;unfold Bs_RatioInt.f
 have m1:=@Bs_WideOf.mono;exact lz
theorem Bs_RatioInt.calls (k:Nat) (a0:Int) (r1:Int) (r2:List Int) (r3:Int) (r4:List Int) (w:World) (H:Bs_RatioInt.f k a0=some (r1,r2,r3,r4)):
  Calls Tryz.prog 65 #[.int .i64 a0] w fun e w'=>∃ v1_ v3_:Value,e= .returned (.agg #[.int .i64 r1,v1_,.int .i64 r3,v3_])∧Kd.V (Kd.int .i64) 3 w' w.heap.size (fun k_=>(w.heap.size≤k_)) v1_ r2∧Kd.V (Kd.int .i64) 3 w' w.heap.size (fun k_=>(w.heap.size≤k_)) v3_ r4∧Below w.heap.size w w':=by
 have hu120:=Tryz.underlying120;have HB:=m0 (Below.refl w.heap.size w);unfold Bs_RatioInt.f at H;replace H:=oa H;obtain⟨⟨t786,t787⟩,A2,H⟩:=H;(try dsimp only at H);replace H:=oa H;obtain⟨⟨t790,t791⟩,A3,H⟩:=H;(try dsimp only at H);simp only[Option.some.injEq,Prod.mk.injEq]at H;obtain⟨rfl,rfl,rfl,rfl⟩:=H;go_enter Tryz.func65,Tryz.ntmps65
 go_wp2_with (first|((with_reducible refine ga 2 rfl ?_);refine be 2 120 #[.int .i64 0,.slice none 0 0,.int .i64 0,.slice none 0 0] ?_;intro gb785 hg w4 hbox hb;have BK785:=m0 hbox;have GE785:=gw w hg;replace HB:=sb HB hb;clear hb hbox hg)|((with_reducible refine gc 91 rfl ?_);refine gl (some 4) Tryz.func91 #[.int .i64 a0] ?_;(with_reducible refine(Bs_WideOf.calls k a0 t786 t787 _ A2.out).mono ?_);rintro e w5 ⟨v788,rfl,ho0,hb⟩;refine⟨_,rfl,?_⟩;have HO789:=hv w (fun k_=>(w.heap.size≤k_)∧k_≠gb785) ho0 (fun k_ hk_=>⟨(Nat.le_trans (below_size bz) hk_),(fb BK785 hk_)⟩);replace BK785:=bb BK785 hb;replace HB:=sb HB hb;(try clear hb);(try clear ho0))|((with_reducible refine gc 91 rfl ?_);refine gl (some 5) Tryz.func91 #[.int .i64 1] ?_;(with_reducible refine(Bs_WideOf.calls k 1 t790 t791 _ A3.out).mono ?_);rintro e w6 ⟨v792,rfl,ho0,hb⟩;refine⟨_,rfl,?_⟩;replace HO789:=vb HO789 hb;have HO793:=hv w (fun k_=>(w.heap.size≤k_)∧k_≠gb785) ho0 (fun k_ hk_=>⟨(Nat.le_trans (below_size bz) hk_),(fb BK785 hk_)⟩);replace BK785:=bb BK785 hb;replace HB:=sb HB hb;(try clear hb);(try clear ho0);obtain⟨Ao7,co7,eo7⟩:=Kd.V_slice HO793.out;subst eo7;obtain⟨Ao8,co8,eo8⟩:=Kd.V_slice HO789.out;subst eo8;obtain⟨_,_,_,_,_,_,_,_⟩:=b4 BK785))
 refine bodyPost_ret (results_cell_row rfl _ _ gb785 120 #[.int .i64 t786,.slice Ao8 t787.length co8,.int .i64 t790,.slice Ao7 t791.length co7] (0,0) _ rfl (bq BK785.out) Tryz.underlying120 rfl (by kernel_rfl)) rfl ?_;exact⟨_,_,e4,by(with_reducible repeat(first|apply Kd.V_alloc|apply Kd.V_drewN|apply Kd.V_drew));exact Kd.V_mono (vf (vf (vf (vf (vn gb785 HO789.out (·.2)) (·.2)) (·.2)) (·.2)) (·.2)) (fun _ hk=>hk.1.1),by(with_reducible repeat(first|apply Kd.V_alloc|apply Kd.V_drewN|apply Kd.V_drew));exact Kd.V_mono (vf (vf (vf (vf (vn gb785 HO793.out (·.2)) (·.2)) (·.2)) (·.2)) (·.2)) (fun _ hk=>hk.1.1),bz⟩
end
section
mutual
def Bs_WideMul.l0:Nat→List Int→Int→Int→List Int→Int→List Int→Option (Int×List Int)
  |0,_,_,_,_,_,_=>none
  |k+1,x5,x6,x798000,x798001,x799000,x799001=>if x6<(x798001.length:Int)then(Bs_WideMul.l1 k x5 x6 0 0 x798000 x798001 x799000 x799001)else((Bs_wideOf.f k (wrap64 (x798000*x799000)) x5).bind fun bt803=>(some (bt803.1,bt803.2)))
def Bs_WideMul.l1:Nat→List Int→Int→Int→Int→Int→List Int→Int→List Int→Option (Int×List Int)
  |0,_,_,_,_,_,_,_,_=>none
  |k+1,x5,x6,x7,x8,x798000,x798001,x799000,x799001=>if x8<(x799001.length:Int)then(if 0≤(wrap64 (x6+x8))then(if(wrap64 (x6+x8))<(x5.length:Int)then(if 0≤x6 then(if x6<(x798001.length:Int)then(if 0≤x8 then(Bs_WideMul.l1 k (x5.set ((wrap64 (x6+x8)):Int).toNat (Int.tmod (wrap64 ((wrap64 ((rd x5 (wrap64 (x6+x8)))+(wrap64 ((rd x798001 x6)*(rd x799001 x8)))))+x7)) 1000000000)) x6 (wrap64 (Int.tdiv (wrap64 ((wrap64 ((rd x5 (wrap64 (x6+x8)))+(wrap64 ((rd x798001 x6)*(rd x799001 x8)))))+x7)) 1000000000)) (wrap64 (x8+1)) x798000 x798001 x799000 x799001)else(none))else(none))else(none))else(none))else(none))else(if 0≤(wrap64 (x6+(x799001.length:Int)))then(if(wrap64 (x6+(x799001.length:Int)))<(x5.length:Int)then(Bs_WideMul.l0 k (x5.set ((wrap64 (x6+(x799001.length:Int))):Int).toNat (wrap64 ((rd x5 (wrap64 (x6+(x799001.length:Int))))+x7))) (wrap64 (x6+1)) x798000 x798001 x799000 x799001)else(none))else(none))
end
def Bs_WideMul.f (k:Nat) (a0_0:Int) (l0_1:List Int) (a1_0:Int) (l1_1:List Int):Option (Int×List Int):=if 0≤(wrap64 ((wrap64 ((l0_1.length:Int)+(l1_1.length:Int)))+1))then(if(wrap64 ((wrap64 ((l0_1.length:Int)+(l1_1.length:Int)))+1):Int).toNat≤35184372088832 then(Bs_WideMul.l0 k (List.replicate (wrap64 ((wrap64 ((l0_1.length:Int)+(l1_1.length:Int)))+1):Int).toNat 0) 0 a0_0 l0_1 a1_0 l1_1)else(none))else(none)
theorem Bs_WideMul.mono_l:∀ k,(∀ y0 y1 y2 y3 y4 y5,LeO (Bs_WideMul.l0 k y0 y1 y2 y3 y4 y5) (Bs_WideMul.l0 (k+1) y0 y1 y2 y3 y4 y5))∧(∀ y0 y1 y2 y3 y4 y5 y6 y7,LeO (Bs_WideMul.l1 k y0 y1 y2 y3 y4 y5 y6 y7) (Bs_WideMul.l1 (k+1) y0 y1 y2 y3 y4 y5 y6 y7))
  |0=>⟨fun _ _ _ _ _ _ r h=>by simp[Bs_WideMul.l0]at h,fun _ _ _ _ _ _ _ _ r h=>by simp[Bs_WideMul.l1]at h⟩
  | k +1=>by
    obtain⟨ih0,ih1⟩:=Bs_WideMul.mono_l k;refine⟨?_,?_⟩
    · intro y0 y1 y2 y3 y4 y5;unfold Bs_WideMul.l0
      have m1:=@Bs_wideOf.mono;exact lz
    · intro y0 y1 y2 y3 y4 y5 y6 y7;unfold Bs_WideMul.l1
      have m1:=@Bs_wideOf.mono;exact lz
theorem Bs_WideMul.mono:∀ a0 a1 a2 a3 k,LeO (Bs_WideMul.f k a0 a1 a2 a3) (Bs_WideMul.f (k+1) a0 a1 a2 a3):=by
  intro a0 a1 a2 a3 k;obtain⟨ih0,ih1⟩:=Bs_WideMul.mono_l k;unfold Bs_WideMul.f
  have m1:=@Bs_wideOf.mono;exact lz
def Bs_WideMul.T9:Bool×List (List Nat×List Nat):=(true,[([],[]),([],[]),([],[]),([1,2],[1,2]),([0,3],[0,3]),([4],[4]),([],[]),([6],[6]),([],[]),([7,8],[7,8]),([9],[9]),([],[]),([11],[11]),([],[]),([12,13],[12,13]),([14],[14]),([10,15],[10,15]),([5,16],[5,16]),([],[]),([17,18],[17,18]),([19,0,1,2,3,4,5,6,7,8,9,10,11,12,13,14,15,16,17,18,19],[19])])
def Bs_WideMul.B9:List Nat:=[0,0,0,6,15,31,0,64,0,448,960,0,2048,0,14336,30720,65472,131071,0,524287,1048575]
theorem Bs_WideMul.tab9:rtab .any (opsOf Tryz.f93 9)=Bs_WideMul.T9:=by kernel_rfl
theorem Bs_WideMul.bits9:waitsOk Bs_WideMul.T9.2 Bs_WideMul.B9=true:=by kernel_rfl
def Bs_WideMul.T11:Bool×List (List Nat×List Nat):=(true,[([],[]),([],[]),([],[]),([2],[2]),([3],[3]),([1,4],[1,4]),([],[]),([],[]),([],[]),([8],[8]),([9],[9]),([7,10],[7,10]),([6,11],[6,11]),([12],[12]),([],[]),([13,14],[13,14]),([0,5,0,1,2,3,4,5,6,7,8,9,10,11,12,13,14,15],[0,5]),([16,15,0,1,2,3,4,5,6,7,8,9,10,11,12,13,14,15],[15,16])])
def Bs_WideMul.B11:List Nat:=[0,0,0,4,12,30,0,0,0,256,768,1920,4032,8128,0,32704,65535,131071]
theorem Bs_WideMul.tab11:rtab .any (opsOf Tryz.f93 11)=Bs_WideMul.T11:=by kernel_rfl
theorem Bs_WideMul.bits11:waitsOk Bs_WideMul.T11.2 Bs_WideMul.B11=true:=by kernel_rfl
theorem Bs_WideMul.calls (k :Nat) (a0_0:Int) (A0_1:Option Addr) (c0_1:Nat) (l0_1:List Int) (a1_0:Int) (A1_1:Option Addr) (c1_1:Nat) (l1_1:List Int) (r1:Int) (r2:List Int) (w:World) (hr0_1:Kd.C (Kd.int .i64) w A0_1 l0_1.length l0_1) (hc0_1:l0_1.length≤c0_1) (hr1_1:Kd.C (Kd.int .i64) w A1_1 l1_1.length l1_1) (hc1_1:l1_1.length≤c1_1) (H:Bs_WideMul.f k a0_0 l0_1 a1_0 l1_1=some (r1,r2)):
    Calls Tryz.prog 93 #[.agg #[.int .i64 a0_0,.slice A0_1 l0_1.length c0_1],.agg #[.int .i64 a1_0,.slice A1_1 l1_1.length c1_1]] w fun e w'=>∃ v1_:Value,e= .returned (.agg #[.int .i64 r1,v1_])∧Kd.V (Kd.int .i64) 3 w' w.heap.size (fun k_=>(w.heap.size≤k_)) v1_ r2∧Below w.heap.size w w':=by
  have hu118:=Tryz.underlying118;have HR0_1:=m0 hr0_1;have HC0_1:=m0 hc0_1;clear hr0_1 hc0_1;have HR1_1:=m0 hr1_1;have HC1_1:=m0 hc1_1;clear hr1_1 hc1_1;have HB:=m0 (Below.refl w.heap.size w);unfold Bs_WideMul.f at H;obtain⟨ji3,hji3⟩:∃ j_:Int,(wrap64 ((wrap64 ((l0_1.length:Int)+(l1_1.length:Int)))+1))=j_:=⟨_,rfl⟩;replace H:(if 0≤(ji3)then(if(ji3:Int).toNat≤35184372088832 then(Bs_WideMul.l0 k (List.replicate (ji3:Int).toNat 0) 0 a0_0 l0_1 a1_0 l1_1)else(none))else(none))=some (r1,r2):=by first|(rw[hji3]at H;exact H)|(simp only[hji3]at H ⊢;exact H)
  have hji3w:(IntKind.i64.wrap ((wrap64 ((l0_1.length:Int)+(l1_1.length:Int)))+1))=ji3:=(i64_w _).trans hji3
  by_cases c4:0≤(ji3)
  · rw [if_pos c4] at H; have c4b0:=eq_true c4;have c4b1:=decide_eq_true c4;clear c4
    by_cases c5:(ji3:Int).toNat≤35184372088832
    · rw [if_pos c5] at H; have c5b0:=eq_true c5;have c5b1:=decide_eq_true c5;clear c5;obtain⟨y800,hy800⟩:∃ y_:List Int,y_=(List.replicate (ji3:Int).toNat 0):=⟨_,rfl⟩;replace H:(Bs_WideMul.l0 k y800 0 a0_0 l0_1 a1_0 l1_1)=some (r1,r2):=hq hy800 H
      have Ny800:=m0 hy800;clear hy800;have H':=m0 H;clear H;go_enter Tryz.func93,Tryz.ntmps93
      go_wp2_with (first|((with_reducible refine ga 2 rfl ?_);refine be 2 118 #[.int .i64 a0_0,.slice A0_1 l0_1.length c0_1] ?_;intro gb797 hg w6 hbox hb;have BK797:=m0 hbox;have GE797:=gw w hg;replace HB:=sb HB hb;clear hb hbox hg)|((with_reducible refine ga 3 rfl ?_);refine be 3 118 #[.int .i64 a1_0,.slice A1_1 l1_1.length c1_1] ?_;intro gb798 hg w7 hbox hb;have BK798:=m0 hbox;have GE798:=gw w hg;replace HB:=sb HB hb;have NB797_798:=nl BK797 hg;have NB798_797:=ng (nl BK797 hg);replace BK797:=bb BK797 hb;clear hb hbox hg)|((with_reducible refine ga 4 rfl ?_);refine be 4 118 #[.int .i64 0,.slice none 0 0] ?_;intro gb799 hg w8 hbox hb;have BK799:=m0 hbox;have GE799:=gw w hg;replace HB:=sb HB hb;have NB797_799:=nl BK797 hg;have NB799_797:=ng (nl BK797 hg);replace BK797:=bb BK797 hb;have NB798_799:=nl BK798 hg;have NB799_798:=ng (nl BK798 hg);replace BK798:=bb BK798 hb;clear hb hbox hg;have hnb9:=NB797_798.out;have hnc9:=NB798_797.out;have hnb10:=NB797_799.out;have hnc10:=NB799_797.out;obtain⟨hcz11_0,hcz11_1,hfz11_0,hfz11_1⟩:=b2 BK797;have hnb12:=NB798_799.out;have hnc12:=NB799_798.out;obtain⟨hcz13_0,hcz13_1,hfz13_0,hfz13_1⟩:=b2 BK798)|((with_reducible refine ga 18 rfl ?_);refine Kd.R_make (Kd.int .i64) _ 3 rfl (N:=18) rfl 22 _ _ rfl ji3 rfl rfl Tryz.underlying22 (.int .i64 0) 8 info3 rfl (by decide) (by omega) 0 (ok:=fun _=>True) (okp:=fun _=>True) rfl (fun _ hk=>hk) trivial (od) (Nat.le_trans (Nat.mul_le_mul_right _ (od:ji3.toNat≤35184372088832)) (by omega)) (Below.refl _ _) (Nat.le_refl _) ?_;intro v801 w14 ho15 hb hg_ hnew_;clear hg_ hnew_;(first|rw[← Ny800.out]at ho15|(simp only[Int.reduceToNat]at ho15;rw[← Ny800.out]at ho15));have HO802:=m0 (Kd.R_lower (Kd.R_newM (M:=fun k_=>(w.heap.size≤k_)) ho15 (below_size bz) (fun k_ h_=>h_)) (below_size bz));replace BK797:=bb BK797 hb;replace BK798:=bb BK798 hb;replace BK799:=bb BK799 hb;replace HB:=sb HB hb;clear hb ho15))
      go_loopg [6] k (fun kq v6 w'=>∃ (x5_1:List Int) (x6_1:Int),v6= .int .i64 x6_1∧Aside0 (Bs_WideMul.l0 kq x5_1 x6_1 a0_0 l0_1 a1_0 l1_1=some (r1,r2))∧Aside0 (kq≤k)∧Aside0 (Kd.R (Kd.int .i64) 3 w' w.heap.size (fun k_=>(w.heap.size≤k_)) v801 x5_1)∧Aside0 (w'.heap[gb797]?=some (.cells #[.int .i64 a0_0,(.slice A0_1 l0_1.length c0_1)] 118 (0,0)))∧Aside0 (w'.heap[gb798]?=some (.cells #[.int .i64 a1_0,(.slice A1_1 l1_1.length c1_1)] 118 (0,0)))∧Aside0 (w'.heap[gb799]?=some (.cells #[.int .i64 0,(.slice none 0 0)] 118 (0,0)))∧Aside0 (Below w.heap.size w w'))
      case atStart=>exact⟨(y800),(0),rz,H',⟨Nat.le_refl _⟩,⟨by (with_reducible repeat(first|apply Kd.R_alloc|apply Kd.R_drewN|apply Kd.R_drew));exact Kd.R_mono HO802.out (fun _ hk=>hk.1)⟩,⟨bk BK797.out⟩,⟨bk BK798.out⟩,⟨bk BK799.out⟩,⟨bz⟩⟩
      case round =>
        clear H'
        try clear hcz11_0
        try clear hcz11_1
        try clear hcz13_0
        try clear hcz13_1
        try clear hfz11_0
        try clear hfz11_1
        try clear hfz13_0
        try clear hfz13_1
        obtain⟨x5_1,x6_1,rfl,HA,HK1,HO_5,BK797,BK798,BK799,HB⟩:=hrel
        cases gk with
        |zero=>exact absurd HA.out (by simp[Bs_WideMul.l0])
        | succ k1 =>
          have H:=HA.out;clear HA;simp only[Bs_WideMul.l0]at H;have hnb17:=NB797_798.out;have hnc17:=NB798_797.out;have hnb18:=NB797_799.out;have hnc18:=NB799_797.out;obtain⟨hcz19_0,hcz19_1,hfz19_0,hfz19_1⟩:=b2 BK797
          by_cases c16:x6_1<(l0_1.length:Int)
          · rw [if_pos c16] at H;have c16b0:=decide_eq_true c16;clear c16;have H':=m0 H;clear H
            go_wp2
            go_loopg [7,8] k1 (fun kq v7 v8 w'=>∃ (x5_2:List Int) (x7_2:Int) (x8_2:Int),v7= .int .i64 x7_2∧v8= .int .i64 x8_2∧Aside0 (Bs_WideMul.l1 kq x5_2 x6_1 x7_2 x8_2 a0_0 l0_1 a1_0 l1_1=some (r1,r2))∧Aside0 (kq≤k1)∧Aside0 (Kd.R (Kd.int .i64) 3 w' w.heap.size (fun k_=>(w.heap.size≤k_)) v801 x5_2)∧Aside0 (w'.heap[gb797]?=some (.cells #[.int .i64 a0_0,(.slice A0_1 l0_1.length c0_1)] 118 (0,0)))∧Aside0 (w'.heap[gb798]?=some (.cells #[.int .i64 a1_0,(.slice A1_1 l1_1.length c1_1)] 118 (0,0)))∧Aside0 (w'.heap[gb799]?=some (.cells #[.int .i64 0,(.slice none 0 0)] 118 (0,0)))∧Aside0 (Below w.heap.size w w'))
            case atStart=>exact⟨(x5_1),(0),(0),rz,rz,H',⟨Nat.le_refl _⟩,⟨br HO_5.out⟩,⟨bk BK797.out⟩,⟨bk BK798.out⟩,⟨bk BK799.out⟩,⟨bz⟩⟩
            case round =>
              clear H'
              try clear hcz11_0
              try clear hcz11_1
              try clear hcz13_0
              try clear hcz13_1
              try clear hcz19_0
              try clear hcz19_1
              try clear hfz11_0
              try clear hfz11_1
              try clear hfz13_0
              try clear hfz13_1
              try clear hfz19_0
              try clear hfz19_1
              obtain⟨x5_2,x7_2,x8_2,rfl,rfl,HA,HK2,HO_5,BK797,BK798,BK799,HB⟩:=hrel
              cases gk with
              |zero=>exact absurd HA.out (by simp[Bs_WideMul.l1])
              | succ k2 =>
                have H:=HA.out;clear HA;simp only[Bs_WideMul.l1]at H
                by_cases c20:x8_2<(l1_1.length:Int)
                · rw [if_pos c20]at H;have c20b0:=decide_eq_true c20;clear c20;obtain⟨ji21,hji21⟩:∃ j_:Int,(wrap64 (x6_1+x8_2))=j_:=⟨_,rfl⟩;replace H:(if 0≤(ji21)then(if(ji21)<(x5_2.length:Int)then(if 0≤x6_1 then(if x6_1<(l0_1.length:Int)then(if 0≤x8_2 then(Bs_WideMul.l1 k2 (x5_2.set ((ji21):Int).toNat (Int.tmod (wrap64 ((wrap64 ((rd x5_2 (ji21))+(wrap64 ((rd l0_1 x6_1)*(rd l1_1 x8_2)))))+x7_2)) 1000000000)) x6_1 (wrap64 (Int.tdiv (wrap64 ((wrap64 ((rd x5_2 (ji21))+(wrap64 ((rd l0_1 x6_1)*(rd l1_1 x8_2)))))+x7_2)) 1000000000)) (wrap64 (x8_2+1)) a0_0 l0_1 a1_0 l1_1)else(none))else(none))else(none))else(none))else(none))=some (r1,r2):=by first|(rw[hji21]at H;exact H)|(simp only[hji21]at H ⊢;exact H)
                  have hji21w:(IntKind.i64.wrap (x6_1+x8_2))=ji21:=(i64_w _).trans hji21
                  by_cases c22:0≤(ji21)
                  · rw [if_pos c22]at H;have c22b0:=decide_eq_true c22;clear c22
                    by_cases c23:(ji21)<(x5_2.length:Int)
                    · rw [if_pos c23]at H;have c23b0:=decide_eq_true c23;clear c23
                      by_cases c24:0≤x6_1
                      · rw [if_pos c24]at H;have c24b0:=decide_eq_true c24;clear c24
                        by_cases c25:x6_1<(l0_1.length:Int)
                        · rw[if_pos c25]at H;have c25b0:=decide_eq_true c25;clear c25
                          by_cases c26:0≤x8_2
                          · rw[if_pos c26]at H;have c26b0:=decide_eq_true c26;clear c26;obtain⟨y810,hy810⟩:∃ y_:List Int,y_=(x5_2.set ((ji21):Int).toNat (Int.tmod (wrap64 ((wrap64 ((rd x5_2 (ji21))+(wrap64 ((rd l0_1 x6_1)*(rd l1_1 x8_2)))))+x7_2)) 1000000000)):=⟨_,rfl⟩;replace H:(Bs_WideMul.l1 k2 y810 x6_1 (wrap64 (Int.tdiv (wrap64 ((wrap64 ((rd x5_2 (ji21))+(wrap64 ((rd l0_1 x6_1)*(rd l1_1 x8_2)))))+x7_2)) 1000000000)) (wrap64 (x8_2+1)) a0_0 l0_1 a1_0 l1_1)=some (r1,r2):=hq hy810 H
                            have Ny810:=m0 hy810;clear hy810;have H':=m0 H;clear H;have hnb28:=NB798_797.out;have hnc28:=NB797_798.out;have hnb29:=NB798_799.out;have hnc29:=NB799_798.out;obtain⟨_,_,_,_⟩:=b2 BK798
                            try go_wp2
                            replace HO_5:=m0 (Kd.R_drew HO_5.out);replace BK797:=bd BK797;replace BK798:=bd BK798;replace BK799:=bd BK799;replace HB:=sd HB;obtain⟨Ao32,co32,eo32⟩:=Kd.R_slice HO_5.out;subst eo32;have p807:0≤((ji21):Int):=od;have q807:(ji21)<(x5_2.length:Int):=od;obtain⟨ad807,e807,hx807_0⟩:=Kd.at_int (Kd.R_reads' HO_5.out).2.2 (ji21) p807 q807
                            cases e807
                            replace p807:=eq_true p807;replace q807:=eq_true q807;have p808:0≤(x6_1:Int):=od;have q808:x6_1<(l0_1.length:Int):=od;obtain⟨ad808,e808,hx808_0⟩:=Kd.at_int HR0_1.out x6_1 p808 q808;have hw808_0:=hx808_0
                            cases e808
                            replace hx808_0:=hc HB hx808_0;replace p808:=eq_true p808;replace q808:=eq_true q808;have p809:0≤(x8_2:Int):=od;have q809:x8_2<(l1_1.length:Int):=od;obtain⟨ad809,e809,hx809_0⟩:=Kd.at_int HR1_1.out x8_2 p809 q809;have hw809_0:=hx809_0
                            cases e809
                            replace hx809_0:=hc HB hx809_0;replace p809:=eq_true p809;replace q809:=eq_true q809;refine start_ (n:=21) (S:=fun w'=>w'.cell? ⟨gb797,0,none⟩=some (.int .i64 a0_0)∧w'.cell? ⟨gb797,1,none⟩=some (.slice (some ad808) l0_1.length c0_1)∧w'.cell? ⟨gb798,0,none⟩=some (.int .i64 a1_0)∧w'.cell? ⟨gb798,1,none⟩=some (.slice (some ad809) l1_1.length c1_1)∧w'.cell? (ad807.add ((ji21)).toNat)=some (.int .i64 (rd x5_2 (ji21)))∧w'.cell? (ad808.add (x6_1).toNat)=some (.int .i64 (rd l0_1 x6_1))∧w'.cell? (ad809.add (x8_2).toNat)=some (.int .i64 (rd l1_1 x8_2))) (ds:=[]) _ (by kernel_rfl) rfl rfl ⟨(blk_cell BK797.out 0).trans rfl,(blk_cell BK797.out 1).trans rfl,(blk_cell BK798.out 0).trans rfl,(blk_cell BK798.out 1).trans rfl,hx807_0,((HB.out.cell (World.block_lt_of_cell? w _ hw808_0)).trans hw808_0),((HB.out.cell (World.block_lt_of_cell? w _ hw809_0)).trans hw809_0)⟩ (fun hH=>?_);refine with_tabW Bs_WideMul.tab9 Bs_WideMul.bits9 (fun HT_ HW_=>?_);generalize wr.drew=w31 at HO_5 BK797 BK798 BK799 HB hx807_0 hx808_0 hx809_0 hH ⊢;refine pZ 0 (some 33) (bs 21 1) HT_ ?_;refine pZ 1 (some 34) (bs 21 3) HT_ ?_;refine pZ 2 (some 35) (bs 21 7) HT_ ?_;refine pZ 3 (some 36) (bs 21 15) HT_ ?_;refine pZ 4 (some 37) (bs 21 31) HT_ ?_;refine pZ 6 (some 39) (bs 21 95) HT_ ?_;refine pZ 8 (some 41) (bs 21 351) HT_ ?_;refine pZ 11 (some 44) (bs 21 2399) HT_ ?_;refine pZ 13 (some 46) (bs 21 10591) HT_ ?_;refine pZ 18 (some 51) (bs 21 272735) HT_ ?_;refine takeZ 5 (some 38) (bs 21 272767) (tw HT_ HW_) hH ?_;refine takeZ 7 (some 40) (bs 21 272895) (tw HT_ HW_) hH ?_;refine pZ 9 (some 42) (bs 21 273407) HT_ ?_;refine takeZ 10 (some 43) (bs 21 274431) (tw HT_ HW_) hH ?_;refine takeZ 12 (some 45) (bs 21 278527) (tw HT_ HW_) hH ?_;refine pZ 14 (some 47) (bs 21 294911) HT_ ?_;refine takeZ 15 (some 48) (bs 21 327679) (tw HT_ HW_) hH ?_;refine pZ 16 (some 49) (bs 21 393215) HT_ ?_;refine pZ 17 (some 50) (bs 21 524287) HT_ ?_;refine pZ 19 (some 52) (bs 21 1048575) HT_ ?_;refine pZ 20 (some 9) (bs 21 2097151) HT_ ?_;refine done_ (done_of HT_.out (by kernel_rfl)) ?_;have p27:0≤((ji21):Int):=od;have q27:((ji21):Int)<((x5_2.length:Int):Int):=od;obtain⟨go27,co27,eo27,gb27,gl27,cl27,HG27⟩:=Kd.R_form HO_5.out (by omega)
                            (first|cases eo27|(injection eo27 with ea_ en_ ec_;(first|subst ea_|(injection ea_ with ea_;subst ea_));subst ec_;clear en_))
                            have GB27:=m0 gb27;have GG27:=m0 HG27;clear gb27 gl27 HG27
                            (first|simp only[add_plain]at hx807_0|skip)
                            obtain⟨hx27_0,hf27_0⟩:=Kd.R_celln 0 HO_5.out ((ji21):Int) p27 q27;replace p27:=eq_true p27;replace q27:=eq_true q27;obtain⟨hy33_,hz33_⟩:=Kd.R_celln 0 HO_5.out ((ji21):Int) (od) (od);have HP33:=Kd.R_putg HO_5.out ((ji21):Int) (Int.tmod (wrap64 ((wrap64 ((rd x5_2 (ji21))+(wrap64 ((rd l0_1 x6_1)*(rd l1_1 x8_2)))))+x7_2)) 1000000000)
                            try go_wp2_with (first|((with_reducible refine gate_store (t:=3) (p:=61) rfl ?_);refine store_event (t:=3) (p:=61) (v:= ?vo_w34) (w1:=(w31.setCell ⟨go27,((ji21):Int).toNat,none⟩ (.int .i64 (Int.tmod (wrap64 ((wrap64 ((rd x5_2 (ji21))+(wrap64 ((rd l0_1 x6_1)*(rd l1_1 x8_2)))))+x7_2)) 1000000000)))) ?hg ?ho ?hn ?hr ?_;(case ho=>rfl);(case hg=>rfl);(case hn=>rfl);(case hr=>first|(go_simp;done)|(go_simp;rfl));intro w34 hw;have hg:w31.grownBy w34 (some go27):=(by rw[hw];exact HP33.2);have hp_:Kd.R (Kd.int .i64) 3 w34 w.heap.size (fun k_=>(w.heap.size≤k_)) (.slice (some ⟨go27,0,none⟩) x5_2.length co32) y810:=(by rw[hw,Ny810.out];exact HP33.1);clear HP33;replace BK797:=m0 (blk_grown (g:=gb797) (o:= .cells #[.int .i64 a0_0,.slice (some ad808) l0_1.length c0_1] 118 (0,0)) (bk BK797.out) hg (Kd.R_ne HO_5.out BK797.out (by decide)));replace BK798:=m0 (blk_grown (g:=gb798) (o:= .cells #[.int .i64 a1_0,.slice (some ad809) l1_1.length c1_1] 118 (0,0)) (bk BK798.out) hg (Kd.R_ne HO_5.out BK798.out (by decide)));replace BK799:=m0 (blk_grown (g:=gb799) (o:= .cells #[.int .i64 0,.slice none 0 0] 118 (0,0)) (bk BK799.out) hg (Kd.R_ne HO_5.out BK799.out (by decide)));replace HO_5:=m0 (hp_);replace HB:=m0 ((by rw[hw];exact below_set (HB.out) GB27.out:Below w.heap.size w w34));clear hg hw hp_))
                            go_roundg k2
                            case measure=>have:=HK1.out;have:=HK2.out;omega
                            case rel=>exact⟨(y810),(wrap64 (Int.tdiv (wrap64 ((wrap64 ((rd x5_2 (ji21))+(wrap64 ((rd l0_1 x6_1)*(rd l1_1 x8_2)))))+x7_2)) 1000000000)),(wrap64 (x8_2+1)),(by first|rfl|(simp;done)|(simp only[← hji21]<;>(first|rfl|simp))|(simp[*];done)),rz,H',⟨by have:=HK1.out;have:=HK2.out;omega⟩,⟨br HO_5.out⟩,⟨bk BK797.out⟩,⟨bk BK798.out⟩,⟨bk BK799.out⟩,⟨bz⟩⟩
                          · rw[if_neg c26]at H;exact absurd H (by simp)
                        · rw[if_neg c25]at H;exact absurd H (by simp)
                      · rw[if_neg c24]at H;exact absurd H (by simp)
                    · rw[if_neg c23]at H;exact absurd H (by simp)
                  · rw[if_neg c22]at H;exact absurd H (by simp)
                · rw [if_neg c20]at H;have c20b0:=decide_eq_false c20;clear c20;obtain⟨ji35,hji35⟩:∃ j_:Int,(wrap64 (x6_1+(l1_1.length:Int)))=j_:=⟨_,rfl⟩;replace H:(if 0≤(ji35)then(if(ji35)<(x5_2.length:Int)then(Bs_WideMul.l0 k2 (x5_2.set ((ji35):Int).toNat (wrap64 ((rd x5_2 (ji35))+x7_2))) (wrap64 (x6_1+1)) a0_0 l0_1 a1_0 l1_1)else(none))else(none))=some (r1,r2):=by first|(rw[hji35]at H;exact H)|(simp only[hji35]at H ⊢;exact H)
                  have hji35w:(IntKind.i64.wrap (x6_1+(l1_1.length:Int)))=ji35:=(i64_w _).trans hji35
                  by_cases c36:0≤(ji35)
                  · rw [if_pos c36]at H;have c36b0:=decide_eq_true c36;clear c36
                    by_cases c37:(ji35)<(x5_2.length:Int)
                    · rw[if_pos c37]at H;have c37b0:=decide_eq_true c37;clear c37;obtain⟨y812,hy812⟩:∃ y_:List Int,y_=(x5_2.set ((ji35):Int).toNat (wrap64 ((rd x5_2 (ji35))+x7_2))):=⟨_,rfl⟩;replace H:(Bs_WideMul.l0 k2 y812 (wrap64 (x6_1+1)) a0_0 l0_1 a1_0 l1_1)=some (r1,r2):=hq hy812 H
                      have Ny812:=m0 hy812;clear hy812;have H':=m0 H;clear H;have hnb39:=NB798_797.out;have hnc39:=NB797_798.out;have hnb40:=NB798_799.out;have hnc40:=NB799_798.out;obtain⟨_,_,_,_⟩:=b2 BK798
                      try go_wp2
                      replace HO_5:=m0 (Kd.R_drew HO_5.out);replace BK797:=bd BK797;replace BK798:=bd BK798;replace BK799:=bd BK799;replace HB:=sd HB;obtain⟨Ao43,co43,eo43⟩:=Kd.R_slice HO_5.out;subst eo43;have p811:0≤((ji35):Int):=od;have q811:(ji35)<(x5_2.length:Int):=od;obtain⟨ad811,e811,hx811_0⟩:=Kd.at_int (Kd.R_reads' HO_5.out).2.2 (ji35) p811 q811
                      cases e811
                      replace p811:=eq_true p811;replace q811:=eq_true q811;have p38:0≤((ji35):Int):=od;have q38:((ji35):Int)<((x5_2.length:Int):Int):=od;obtain⟨go38,co38,eo38,gb38,gl38,cl38,HG38⟩:=Kd.R_form HO_5.out (by omega)
                      (first|cases eo38|(injection eo38 with ea_ en_ ec_;(first|subst ea_|(injection ea_ with ea_;subst ea_));subst ec_;clear en_))
                      have GB38:=m0 gb38;have GG38:=m0 HG38;clear gb38 gl38 HG38
                      (first|simp only[add_plain]at hx811_0|skip)
                      obtain⟨hx38_0,hf38_0⟩:=Kd.R_celln 0 HO_5.out ((ji35):Int) p38 q38;replace p38:=eq_true p38;replace q38:=eq_true q38;have HP44:=Kd.R_putn HO_5.out ((ji35):Int) (wrap64 ((rd x5_2 (ji35))+x7_2));rw[← Ny812.out]at HP44;have HQ44:=m0 HP44;clear HP44;refine start_ (n:=18) (S:=fun w'=>w'.cell? ⟨gb798,0,none⟩=some (.int .i64 a1_0)∧w'.cell? ⟨gb798,1,none⟩=some (.slice A1_1 l1_1.length c1_1)∧w'.cell? ⟨go38,((ji35)).toNat,none⟩=some (.int .i64 (rd x5_2 (ji35)))) (ds:=[17]) _ (by kernel_rfl) rfl rfl ⟨(blk_cell BK798.out 0).trans rfl,(blk_cell BK798.out 1).trans rfl,hx811_0⟩ (fun hH=>?_);refine with_tabW Bs_WideMul.tab11 Bs_WideMul.bits11 (fun HT_ HW_=>?_);generalize wr.drew=w42 at HO_5 BK797 BK798 BK799 HB GG38 HQ44 hf38_0 hx38_0 hx811_0 hH ⊢;refine pZ 0 (some 62) (bs 18 1) HT_ ?_;refine pZ 1 (some 63) (bs 18 3) HT_ ?_;refine pZ 2 (some 64) (bs 18 7) HT_ ?_;refine pZ 6 (some 68) (bs 18 71) HT_ ?_;refine pZ 7 (some 69) (bs 18 199) HT_ ?_;refine pZ 8 (some 70) (bs 18 455) HT_ ?_;refine pZ 14 (some 76) (bs 18 16839) HT_ ?_;refine takeZ 3 (some 65) (bs 18 16847) (tw HT_ HW_) hH ?_;refine pZ 4 (some 66) (bs 18 16863) HT_ ?_;refine pZ 5 (some 67) (bs 18 16895) HT_ ?_;refine takeZ 9 (some 71) (bs 18 17407) (tw HT_ HW_) hH ?_;refine pZ 10 (some 72) (bs 18 18431) HT_ ?_;refine pZ 11 (some 73) (bs 18 20479) HT_ ?_;refine pZ 12 (some 74) (bs 18 24575) HT_ ?_;refine takeZ 13 (some 75) (bs 18 32767) (tw HT_ HW_) hH ?_;refine pZ 15 (some 77) (bs 18 65535) HT_ ?_;refine pZ 16 (some 78) (bs 18 131071) HT_ ?_;refine last_ (i:=17) (N:=none) (bs 18 262143) rfl rfl (o1 HT_) (by decide) (fun K hK=>?_);refine skip_ (w1:=?_) (by rfl) rfl ?_ ?_;rotate_left
                      · go_simp
                        rfl
                      refine hK.out _ _ ?_;clear hK K;refine done_ (done_of HT_.out (by kernel_rfl)) ?_
                      try go_wp2
                      go_roundg k2
                      case measure=>have:=HK1.out;have:=HK2.out;omega
                      case rel=>exact⟨(y812),(wrap64 (x6_1+1)),rz,H',⟨by have:=HK1.out;have:=HK2.out;omega⟩,⟨br HQ44.out⟩,⟨by (with_reducible repeat(first|refine blk_drewN ?_ _|refine blk_drew ?_|refine blk_alloc ?_ _));refine blk_far ?_ (by have h_:=Kd.R_ne HO_5.out BK797.out (by decide);intro e_;exact h_ (by rw[e_];rfl)) _;(with_reducible repeat(first|refine blk_drewN ?_ _|refine blk_drew ?_|refine blk_alloc ?_ _));exact BK797.out⟩,⟨by (with_reducible repeat(first|refine blk_drewN ?_ _|refine blk_drew ?_|refine blk_alloc ?_ _));refine blk_far ?_ (by have h_:=Kd.R_ne HO_5.out BK798.out (by decide);intro e_;exact h_ (by rw[e_];rfl)) _;(with_reducible repeat(first|refine blk_drewN ?_ _|refine blk_drew ?_|refine blk_alloc ?_ _));exact BK798.out⟩,⟨by (with_reducible repeat(first|refine blk_drewN ?_ _|refine blk_drew ?_|refine blk_alloc ?_ _));refine blk_far ?_ (by have h_:=Kd.R_ne HO_5.out BK799.out (by decide);intro e_;exact h_ (by rw[e_];rfl)) _;(with_reducible repeat(first|refine blk_drewN ?_ _|refine blk_drew ?_|refine blk_alloc ?_ _));exact BK799.out⟩,⟨bz⟩⟩
                    · rw[if_neg c37]at H;exact absurd H (by simp)
                  · rw[if_neg c36]at H;exact absurd H (by simp)
          · rw[if_neg c16]at H;have c16b0:=decide_eq_false c16;clear c16;replace H:=oa H;obtain⟨⟨t803,t804⟩,A45,H⟩:=H;(try dsimp only at H);simp only[Option.some.injEq,Prod.mk.injEq]at H;obtain⟨rfl,rfl⟩:=H;have hnb49:=NB798_799.out;have hnc49:=NB799_798.out;obtain⟨_,_,_,_⟩:=b2 BK798;obtain⟨Ao51,co51,eo51⟩:=Kd.R_slice HO_5.out;subst eo51
            go_wp2_with (first|((with_reducible refine gc 119 rfl ?_);refine gl (some 85) Tryz.func119 #[.int .i64 (wrap64 (a0_0*a1_0)),.slice Ao51 x5_1.length co51] ?_;(with_reducible refine(Bs_wideOf.calls k1 (wrap64 (a0_0*a1_0)) (fun k_=>some k_=(.slice Ao51 x5_1.length co51:Value).ownBlock) _ _ x5_1 t803 t804 _ ?side1 A45.out).mono ?_);(case side1=>exact Kd.R_V (Kd.R_tight rfl (Kd.R_types (Kd.R_types (Kd.R_types (HO_5.out) BK797.out (by decide)) BK798.out (by decide)) BK799.out (by decide))));rintro e w52 ⟨v805,rfl,ho0,hb⟩;refine⟨_,rfl,?_⟩;have HO806:=hv w (fun k_=>(w.heap.size≤k_)∧k_≠gb797∧k_≠gb798∧k_≠gb799) ho0 (fun k_ hk_=>⟨Or.elim hk_ (fun hs_=>((Kd.R_types (Kd.R_types (Kd.R_types (HO_5.out) BK797.out (by decide)) BK798.out (by decide)) BK799.out (by decide)).1 k_ hs_.symm).1.1.1) (fun hn_=>(Nat.le_trans (below_size bz) hn_)),Or.elim hk_ (fun hs_=>((Kd.R_types (Kd.R_types (Kd.R_types (HO_5.out) BK797.out (by decide)) BK798.out (by decide)) BK799.out (by decide)).1 k_ hs_.symm).1.1.2) (fb BK797 ·),Or.elim hk_ (fun hs_=>((Kd.R_types (Kd.R_types (Kd.R_types (HO_5.out) BK797.out (by decide)) BK798.out (by decide)) BK799.out (by decide)).1 k_ hs_.symm).1.2) (fb BK798 ·),Or.elim hk_ (fun hs_=>((Kd.R_types (Kd.R_types (Kd.R_types (HO_5.out) BK797.out (by decide)) BK798.out (by decide)) BK799.out (by decide)).1 k_ hs_.symm).2) (fb BK799 ·)⟩);replace HO_5:=rb HO_5 hb;replace BK797:=bb BK797 hb;replace BK798:=bb BK798 hb;replace BK799:=bb BK799 hb;replace HB:=sb HB hb;(try clear hb);(try clear ho0);obtain⟨_,_,_,_⟩:=b2 BK799;obtain⟨Ao54,co54,eo54⟩:=Kd.V_slice HO806.out;subst eo54))
            refine bodyPost_ret (results_cell_row rfl _ _ gb799 118 #[.int .i64 t803,.slice Ao54 t804.length co54] (0,0) _ rfl (bq BK799.out) Tryz.underlying118 rfl (by kernel_rfl)) rfl ?_;exact⟨_,by first|rfl|(simp[errW_none,errW_some]<;>rfl)|(simp only[← hji3];first|rfl|(simp[errW_none,errW_some]<;>rfl))|(simp[*,errW_none,errW_some]<;>rfl),by(with_reducible repeat(first|apply Kd.V_alloc|apply Kd.V_drewN|apply Kd.V_drew));exact Kd.V_mono (vf (vf (vn gb799 HO806.out (·.2.2.2)) (·.2)) (·.2)) (fun _ hk=>hk.1.1),bz⟩
    · rw[if_neg c5]at H;exact absurd H (by simp)
  · rw[if_neg c4]at H;exact absurd H (by simp)
end
section
def Bs_WideSign.f (a0_0:Int) (l0_1:List Int):Option (Int):=some a0_0
theorem Bs_WideSign.calls (a0_0:Int) (A0_1:Option Addr) (c0_1:Nat) (l0_1:List Int) (r:Int) (w:World) (hr0_1:Kd.C (Kd.int .i64) w A0_1 l0_1.length l0_1) (hc0_1:l0_1.length≤c0_1) (H:Bs_WideSign.f a0_0 l0_1=some r):
  Calls Tryz.prog 120 #[.agg #[.int .i64 a0_0,.slice A0_1 l0_1.length c0_1]] w fun e w'=>e= .returned (.int .i64 r)∧Below w.heap.size w w':=by
 have hu118:=Tryz.underlying118;have HR0_1:=m0 hr0_1;have HC0_1:=m0 hc0_1;clear hr0_1 hc0_1;have HB:=m0 (Below.refl w.heap.size w);unfold Bs_WideSign.f at H;obtain rfl:=Option.some.inj H;go_enter Tryz.func120,Tryz.ntmps120
 go_wp2_with (first|((with_reducible refine ga 1 rfl ?_);refine be 1 118 #[.int .i64 a0_0,.slice A0_1 l0_1.length c0_1] ?_;intro gb794 hg w2 hbox hb;have BK794:=m0 hbox;have GE794:=gw w hg;replace HB:=sb HB hb;clear hb hbox hg;obtain⟨_,_,_,_⟩:=b2 BK794))
 go_ret
 exact ez
end
section
def Bs_WideNeg.f (a0_0:Int) (l0_1:List Int):Option (Int×List Int):=some (wrap64 (-a0_0),l0_1)
theorem Bs_WideNeg.calls (a0_0:Int) (P0_1_:Nat→Prop) (A0_1:Option Addr) (c0_1:Nat) (l0_1:List Int) (r1:Int) (r2:List Int) (w:World) (hs0_1:Kd.V (Kd.int .i64) 3 w w.heap.size (fun k_=>P0_1_ k_) (.slice A0_1 l0_1.length c0_1) l0_1) (H:Bs_WideNeg.f a0_0 l0_1=some (r1,r2)):
  Calls Tryz.prog 121 #[.agg #[.int .i64 a0_0,.slice A0_1 l0_1.length c0_1]] w fun e w'=>∃ v1_:Value,e= .returned (.agg #[.int .i64 r1,v1_])∧Kd.V (Kd.int .i64) 3 w' w.heap.size (fun k_=>(P0_1_ k_∨w.heap.size≤k_)) v1_ r2∧Below w.heap.size w w':=by
 have hu118:=Tryz.underlying118;have HO0_1:=m0 (show Kd.V (Kd.int .i64) 3 w w.heap.size (fun k_=>(P0_1_ k_∨w.heap.size≤k_)) (.slice A0_1 l0_1.length c0_1) l0_1 from Kd.V_mono hs0_1 (fun k_ hk=> .inl hk));have HB:=m0 (Below.refl w.heap.size w);unfold Bs_WideNeg.f at H;simp only[Option.some.injEq,Prod.mk.injEq]at H;obtain⟨rfl,rfl⟩:=H;go_enter Tryz.func121,Tryz.ntmps121
 go_wp2_with (first|((with_reducible refine ga 1 rfl ?_);refine be 1 118 #[.int .i64 a0_0,.slice A0_1 l0_1.length c0_1] ?_;intro gb795 hg w2 hbox hb;replace HO0_1:=ve HO0_1 hg hb;have BK795:=m0 hbox;have GE795:=gw w hg;replace HB:=sb HB hb;clear hb hbox hg)|((with_reducible refine ga 2 rfl ?_);refine be 2 118 #[.int .i64 0,.slice none 0 0] ?_;intro gb796 hg w3 hbox hb;replace HO0_1:=ve HO0_1 hg hb;have BK796:=m0 hbox;have GE796:=gw w hg;replace HB:=sb HB hb;have NB795_796:=nl BK795 hg;have NB796_795:=ng (nl BK795 hg);replace BK795:=bb BK795 hb;clear hb hbox hg;have hnb4:=NB795_796.out;have hnc4:=NB796_795.out;obtain⟨_,_,_,_⟩:=b2 BK795;obtain⟨_,_,_,_⟩:=b2 BK796))
 refine bodyPost_ret (results_cell_row rfl _ _ gb796 118 #[.int .i64 (wrap64 (-a0_0)),.slice A0_1 l0_1.length c0_1] (0,0) _ rfl (bq BK796.out) Tryz.underlying118 rfl (by kernel_rfl)) rfl ?_;exact⟨_,e4,by(with_reducible repeat(first|apply Kd.V_alloc|apply Kd.V_drewN|apply Kd.V_drew));exact Kd.V_mono (vf (vf (vn gb796 HO0_1.out (·.2)) (·.2)) (·.2)) (fun _ hk=>hk.1.1.1),bz⟩
end
section
def Bs_cmpDigits.l0:Nat→List Int→List Int→Int→Option (Int)
 |0,_,_,_=>none
 |k+1,x0,x1,x5=>if x5≥0 then(if 0≤x5 then(if x5<(x0.length:Int)then(if x5<(x1.length:Int)then(if(rd x0 x5)<(rd x1 x5)then(some (-1))else(if(rd x0 x5)>(rd x1 x5)then(some 1)else(Bs_cmpDigits.l0 k x0 x1 (wrap64 (x5-1)))))else(none))else(none))else(none))else(some 0)
def Bs_cmpDigits.f (k:Nat) (l0:List Int) (l1:List Int):Option (Int):=if(l0.length:Int)=(l1.length:Int)then(Bs_cmpDigits.l0 k l0 l1 (wrap64 ((l0.length:Int)-1)))else(if(l0.length:Int)<(l1.length:Int)then(some (-1))else(some 1))
theorem Bs_cmpDigits.mono_l:∀ k,(∀ y0 y1 y2,LeO (Bs_cmpDigits.l0 k y0 y1 y2) (Bs_cmpDigits.l0 (k+1) y0 y1 y2))
 |0=>fun _ _ _ r h=>by simp[Bs_cmpDigits.l0]at h
 | k+1=>by
  have ih0:=Bs_cmpDigits.mono_l k
  ·intro y0 y1 y2;unfold Bs_cmpDigits.l0
   exact lz
theorem Bs_cmpDigits.mono:∀ a0 a1 k,LeO (Bs_cmpDigits.f k a0 a1) (Bs_cmpDigits.f (k+1) a0 a1):=by
 intro a0 a1 k;have ih0:=Bs_cmpDigits.mono_l k;unfold Bs_cmpDigits.f
 exact lz
theorem Bs_cmpDigits.calls (k:Nat) (A0:Option Addr) (c0:Nat) (l0:List Int) (A1:Option Addr) (c1:Nat) (l1:List Int) (r:Int) (w:World) (hr0:Kd.C (Kd.int .i64) w A0 l0.length l0) (hc0:l0.length≤c0) (hr1:Kd.C (Kd.int .i64) w A1 l1.length l1) (hc1:l1.length≤c1) (H:Bs_cmpDigits.f k l0 l1=some r):
  Calls Tryz.prog 137 #[.slice A0 l0.length c0,.slice A1 l1.length c1] w fun e w'=>e= .returned (.int .i64 r)∧Drawn0 w w':=by
 have HR0:=m0 hr0;have HC0:=m0 hc0;clear hr0 hc0;have HR1:=m0 hr1;have HC1:=m0 hc1;clear hr1 hc1;unfold Bs_cmpDigits.f at H
 by_cases c3:(l0.length:Int)=(l1.length:Int)
 ·rw [if_pos c3]at H;have c3b0:=beq_iff_eq.mpr c3;have c3b1:=bne_eq_false_iff_eq.mpr c3;have c3b2:(l0.length==l1.length)=true:=by first|simpa using c3|(simp at c3 ⊢;omega)
  clear c3;have H':=m0 H;clear H;go_enter Tryz.func137,Tryz.ntmps137
  go_wp2
  repeat(go_quiet (fail);try go_wp2)
  go_loopg [5] k (fun kq v5 w'=>∃ (x5_1:Int),v5= .int .i64 x5_1∧Aside0 (Bs_cmpDigits.l0 kq l0 l1 x5_1=some r)∧Aside0 (kq≤k)∧Drawn0 w w')
  case atStart=>exact⟨(wrap64 ((l0.length:Int)-1)),rz,H',⟨Nat.le_refl _⟩,dz⟩
  case round=>
   clear H';obtain⟨x5_1,rfl,HA,HK1,⟨m1,rfl⟩⟩:=hrel
   cases gk with
   |zero=>exact absurd HA.out (by simp[Bs_cmpDigits.l0])
   | succ k1=>
    have H:=HA.out;clear HA;simp only[Bs_cmpDigits.l0]at H
    by_cases c4:x5_1≥0
    ·rw [if_pos c4]at H;have c4b0:=decide_eq_true c4;clear c4
     by_cases c5:0≤x5_1
     ·rw [if_pos c5]at H;have c5b0:=decide_eq_true c5;clear c5
      by_cases c6:x5_1<(l0.length:Int)
      ·rw [if_pos c6]at H;have c6b0:=decide_eq_true c6;clear c6
       by_cases c7:x5_1<(l1.length:Int)
       ·rw [if_pos c7]at H;have c7b0:=decide_eq_true c7;clear c7;have p813:0≤(x5_1:Int):=od;have q813:x5_1<(l0.length:Int):=od;obtain⟨ad813,e813,hx813_0⟩:=Kd.at_int HR0.out x5_1 p813 q813
        cases e813
        replace p813:=eq_true p813;replace q813:=eq_true q813;have p814:0≤(x5_1:Int):=od;have q814:x5_1<(l1.length:Int):=od;obtain⟨ad814,e814,hx814_0⟩:=Kd.at_int HR1.out x5_1 p814 q814
        cases e814
        replace p814:=eq_true p814;replace q814:=eq_true q814
        by_cases c8:(rd l0 x5_1)<(rd l1 x5_1)
        ·rw [if_pos c8]at H;have c8b0:=decide_eq_true c8;clear c8;obtain rfl:=Option.some.inj H
         go_wp2
         repeat(go_quiet (fail);try go_wp2)
         go_ret
         exact⟨rz,dz⟩
        ·rw [if_neg c8]at H;have c8b0:=decide_eq_false c8;clear c8;have p815:0≤(x5_1:Int):=od;have q815:x5_1<(l0.length:Int):=od;obtain⟨ad815,e815,hx815_0⟩:=Kd.at_int HR0.out x5_1 p815 q815;obtain rfl:ad813=ad815:=(by injection e815);replace p815:=eq_true p815;replace q815:=eq_true q815;have p816:0≤(x5_1:Int):=od;have q816:x5_1<(l1.length:Int):=od;obtain⟨ad816,e816,hx816_0⟩:=Kd.at_int HR1.out x5_1 p816 q816;obtain rfl:ad814=ad816:=(by injection e816);replace p816:=eq_true p816;replace q816:=eq_true q816
         by_cases c9:(rd l0 x5_1)>(rd l1 x5_1)
         ·rw [if_pos c9]at H;have c9b0:=decide_eq_true c9;clear c9;obtain rfl:=Option.some.inj H
          go_wp2
          repeat(go_quiet (fail);try go_wp2)
          go_ret
          exact⟨rz,dz⟩
         ·rw [if_neg c9]at H;have c9b0:=decide_eq_false c9;clear c9;have H':=m0 H;clear H
          go_wp2
          repeat(go_quiet (fail);try go_wp2)
          go_roundg k1
          case measure=>have:=HK1.out;omega
          case rel=>exact⟨(wrap64 (x5_1-1)),rz,H',⟨by have:=HK1.out;omega⟩,dz⟩
       ·rw [if_neg c7]at H;exact absurd H (by simp)
      ·rw [if_neg c6]at H;exact absurd H (by simp)
     ·rw [if_neg c5]at H;exact absurd H (by simp)
    ·rw [if_neg c4]at H;have c4b0:=decide_eq_false c4;clear c4;obtain rfl:=Option.some.inj H
     go_wp2
     repeat(go_quiet (fail);try go_wp2)
     go_ret
     exact⟨rz,dz⟩
 ·rw [if_neg c3]at H;have c3b0:=beq_eq_false_iff_ne.mpr c3;have c3b1:=bne_iff_ne.mpr c3;have c3b2:(l0.length==l1.length)=false:=by first|simpa using c3|(simp at c3 ⊢;omega)
  by_cases c10:(l0.length:Int)<(l1.length:Int)
  ·rw [if_pos c10]at H;have c10b0:=decide_eq_true c10;have c10b1:decide (l0.length<l1.length)=true:=decide_eq_true (Int.ofNat_lt.mp c10);clear c10;obtain rfl:=Option.some.inj H;go_enter Tryz.func137,Tryz.ntmps137
   go_wp2
   repeat(go_quiet (fail);try go_wp2)
   go_ret
   exact⟨rz,dz⟩
  ·rw [if_neg c10]at H;have c10b0:=decide_eq_false c10;have c10b1:decide (l0.length<l1.length)=false:=decide_eq_false (fun h=>c10 (Int.ofNat_lt.mpr h));clear c10;obtain rfl:=Option.some.inj H;go_enter Tryz.func137,Tryz.ntmps137
   go_wp2
   repeat(go_quiet (fail);try go_wp2)
   go_ret
   exact⟨rz,dz⟩
end
section
def Bs_digit.f (l0:List Int) (a1:Int):Option (Int):=if a1<(l0.length:Int)then(if 0≤a1 then(some (rd l0 a1))else(none))else(some 0)
theorem Bs_digit.calls (A0:Option Addr) (c0:Nat) (l0:List Int) (a1:Int) (r:Int) (w:World) (hr0:Kd.C (Kd.int .i64) w A0 l0.length l0) (hc0:l0.length≤c0) (H:Bs_digit.f l0 a1=some r):
  Calls Tryz.prog 155 #[.slice A0 l0.length c0,.int .i64 a1] w fun e w'=>e= .returned (.int .i64 r)∧Drawn0 w w':=by
 have HR0:=m0 hr0;have HC0:=m0 hc0;clear hr0 hc0;unfold Bs_digit.f at H
 by_cases c3:a1<(l0.length:Int)
 ·rw [if_pos c3]at H;have c3b0:=decide_eq_true c3;clear c3
  by_cases c4:0≤a1
  ·rw [if_pos c4]at H;have c4b0:=decide_eq_true c4;clear c4;obtain rfl:=Option.some.inj H;have p817:0≤(a1:Int):=od;have q817:a1<(l0.length:Int):=od;obtain⟨ad817,e817,hx817_0⟩:=Kd.at_int HR0.out a1 p817 q817
   cases e817
   replace p817:=eq_true p817;replace q817:=eq_true q817;go_enter Tryz.func155,Tryz.ntmps155
   go_wp2
   go_ret
   exact⟨rz,dz⟩
  ·rw [if_neg c4]at H;exact absurd H (by simp)
 ·rw [if_neg c3]at H;have c3b0:=decide_eq_false c3;clear c3;obtain rfl:=Option.some.inj H;go_enter Tryz.func155,Tryz.ntmps155
  go_wp2
  go_ret
  exact⟨rz,dz⟩
end
end Go.Proofs.YteiafijbgjgiaaaGreat.A
