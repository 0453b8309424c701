/- Walks of the program's functions (printed, made shorter), each with what it computes. -/
import Derived.Test.YteiafijbgjgiaaaGreatP29
namespace Go.Proofs.YteiafijbgjgiaaaGreat.A
set_option maxHeartbeats 8000000
set_option maxRecDepth 100000
open Go.RowKit Go.Proofs.YteiafijbgjgiaaaGreatW.PrintWords Go.Proofs.YteiafijbgjgiaaaGreatW.PrintLast Go.Proofs.YteiafijbgjgiaaaGreatW.PrintMore
attribute [local go_sem] max2_int min2_int max_two min_two max_three min_three max_four min_four
set_option linter.unusedVariables false
set_option linter.unusedSimpArgs false
mutual
def Lw_CloudSpans.j0:Nat→List Int→List (S24)→Bool→Int→Int→Option (Bool)
  |0,_,_,_,_,_=>none
  |k+1,x0,x2,x23,x1170000,x1170001=>if x23=true then(some true)else((Bs_CopyInts.f x0).bind fun t1172=>((L_UndoneIn.f k t1172 x1170000 x1170001).bind fun bt1175=>((Bs_CopyFracs.f x2).bind fun t1179=>((L_Attenuated.f k t1179 x1170000).bind fun bt1182=>((Rf_ProfileErr.f k x0).bind fun t1186=>((Rf_ConstantErr.f x1170000).bind fun t1187=>((Rf_ConstantErr.f x1170001).bind fun t1188=>((Lw_both.f t1187 t1188).bind fun t1189=>((Lw_both.f t1186 t1189).bind fun t1190=>(if t1190=0 then(Lw_CloudSpans.j1 k x0 x2 bt1175.1 bt1175.2 bt1182.1 bt1182.2 t1190 (decide (x1170000>x1170001)) x1170000 x1170001)else(Lw_CloudSpans.j1 k x0 x2 bt1175.1 bt1175.2 bt1182.1 bt1182.2 t1190 false x1170000 x1170001)))))))))))
def Lw_CloudSpans.j1:Nat→List Int→List (S24)→List (S74)→Int→List (S24)→Int→Int→Bool→Int→Int→Option (Bool)
  |0,_,_,_,_,_,_,_,_,_,_=>none
  |k+1,x0,x2,x7,x8,x9,x10,x11,x57,x1170000,x1170001=>if x57=true then(Lw_CloudSpans.j2 k x0 x2 x7 x8 x9 x10 9 x1170000 x1170001)else(Lw_CloudSpans.j2 k x0 x2 x7 x8 x9 x10 x11 x1170000 x1170001)
def Lw_CloudSpans.j2:Nat→List Int→List (S24)→List (S74)→Int→List (S24)→Int→Int→Int→Int→Option (Bool)
  |0,_,_,_,_,_,_,_,_,_=>none
  |k+1,x0,x2,x7,x8,x9,x10,x11,x1170000,x1170001=>if x11=0 then((Rf_BreakErr.f k x0 x1170000).bind fun t1191=>(Lw_CloudSpans.j3 k x0 x2 x7 x8 x9 x10 t1191 x1170000 x1170001))else(Lw_CloudSpans.j3 k x0 x2 x7 x8 x9 x10 x11 x1170000 x1170001)
def Lw_CloudSpans.j3:Nat→List Int→List (S24)→List (S74)→Int→List (S24)→Int→Int→Int→Int→Option (Bool)
  |0,_,_,_,_,_,_,_,_,_=>none
  |k+1,x0,x2,x7,x8,x9,x10,x11,x1170000,x1170001=>if x11=0 then(if x8=0 then((Rf_Spans.f k x0 x1170000 x1170001).bind fun t1192=>((Rf_SameSpans.f k x7 t1192).bind fun t1195=>(Lw_CloudSpans.j4 k x2 x9 x10 (!t1195) x1170000 x1170001)))else(none))else(if x8=x11 then(if(x7.length:Int)=0 then(Lw_CloudSpans.j4 k x2 x9 x10 false x1170000 x1170001)else(none))else(none))
def Lw_CloudSpans.j4:Nat→List (S24)→List (S24)→Int→Bool→Int→Int→Option (Bool)
  |0,_,_,_,_,_,_=>none
  |k+1,x2,x9,x10,x91,x1170000,x1170001=>if x91=true then(none)else((Rf_SharesErr.f k x2).bind fun t1196=>((Rf_ConstantErr.f x1170000).bind fun t1197=>((Lw_both.f t1196 t1197).bind fun t1198=>(if t1198=0 then((Rf_Signals.f k x2 x1170000).bind fun bt1199=>(if bt1199.2=true then(if x10=0 then((Bs_Fracs.f k x9 bt1199.1).bind fun t1203=>(some t1203))else(none))else(if x10=8 then(some ((x9.length:Int)==0))else(none))))else(if x10=t1198 then(some ((x9.length:Int)==0))else(none))))))
end
def Lw_CloudSpans.f (k:Nat) (l0:List Int) (a1_0:Int) (a1_1:Int) (l2:List (S24)):Option (Bool):=(Lw_awake.f k).bind fun t1170=>(if t1170=true then((Lw_few.f l0).bind fun t1171=>(if t1171=true then(Lw_CloudSpans.j0 k l0 l2 (decide ((l2.length:Int)>26)) a1_0 a1_1)else(Lw_CloudSpans.j0 k l0 l2 true a1_0 a1_1)))else(none))
theorem Lw_CloudSpans.mono_l:∀ k,(∀ y0 y1 y2 y3 y4,LeO (Lw_CloudSpans.j0 k y0 y1 y2 y3 y4) (Lw_CloudSpans.j0 (k+1) y0 y1 y2 y3 y4))∧(∀ y0 y1 y2 y3 y4 y5 y6 y7 y8 y9,LeO (Lw_CloudSpans.j1 k y0 y1 y2 y3 y4 y5 y6 y7 y8 y9) (Lw_CloudSpans.j1 (k+1) y0 y1 y2 y3 y4 y5 y6 y7 y8 y9))∧(∀ y0 y1 y2 y3 y4 y5 y6 y7 y8,LeO (Lw_CloudSpans.j2 k y0 y1 y2 y3 y4 y5 y6 y7 y8) (Lw_CloudSpans.j2 (k+1) y0 y1 y2 y3 y4 y5 y6 y7 y8))∧(∀ y0 y1 y2 y3 y4 y5 y6 y7 y8,LeO (Lw_CloudSpans.j3 k y0 y1 y2 y3 y4 y5 y6 y7 y8) (Lw_CloudSpans.j3 (k+1) y0 y1 y2 y3 y4 y5 y6 y7 y8))∧(∀ y0 y1 y2 y3 y4 y5,LeO (Lw_CloudSpans.j4 k y0 y1 y2 y3 y4 y5) (Lw_CloudSpans.j4 (k+1) y0 y1 y2 y3 y4 y5))
  |0=>⟨fun _ _ _ _ _ r h=>by simp[Lw_CloudSpans.j0]at h,fun _ _ _ _ _ _ _ _ _ _ r h=>by simp[Lw_CloudSpans.j1]at h,fun _ _ _ _ _ _ _ _ _ r h=>by simp[Lw_CloudSpans.j2]at h,fun _ _ _ _ _ _ _ _ _ r h=>by simp[Lw_CloudSpans.j3]at h,fun _ _ _ _ _ _ r h=>by simp[Lw_CloudSpans.j4]at h⟩
  | k + 1=>by
    obtain⟨ih0,ih1,ih2,ih3,ih4⟩:=Lw_CloudSpans.mono_l k;refine⟨?_,?_,?_,?_,?_⟩
    · intro y0 y1 y2 y3 y4;unfold Lw_CloudSpans.j0
      repeat' with_reducible first
        |exact ih0 ..
        |exact ih1 ..
        |exact ih2 ..
        |exact ih3 ..
        |exact ih4 ..
        |exact L_Attenuated.mono ..
        |exact L_UndoneIn.mono ..
        |exact Bs_Fracs.mono ..
        |exact Lw_awake.mono ..
        |exact Rf_BreakErr.mono ..
        |exact Rf_ProfileErr.mono ..
        |exact Rf_SameSpans.mono ..
        |exact Rf_SharesErr.mono ..
        |exact Rf_Signals.mono ..
        |exact Rf_Spans.mono ..
        |exact LeO.refl ..
        |exact LeO.none ..
        |refine LeO.ite ?_ ?_
        |refine LeO.bind ?_ (fun _=>?_)
    · intro y0 y1 y2 y3 y4 y5 y6 y7 y8 y9;unfold Lw_CloudSpans.j1
      repeat' with_reducible first
        |exact ih0 ..
        |exact ih1 ..
        |exact ih2 ..
        |exact ih3 ..
        |exact ih4 ..
        |exact L_Attenuated.mono ..
        |exact L_UndoneIn.mono ..
        |exact Bs_Fracs.mono ..
        |exact Lw_awake.mono ..
        |exact Rf_BreakErr.mono ..
        |exact Rf_ProfileErr.mono ..
        |exact Rf_SameSpans.mono ..
        |exact Rf_SharesErr.mono ..
        |exact Rf_Signals.mono ..
        |exact Rf_Spans.mono ..
        |exact LeO.refl ..
        |exact LeO.none ..
        |refine LeO.ite ?_ ?_
        |refine LeO.bind ?_ (fun _=>?_)
    · intro y0 y1 y2 y3 y4 y5 y6 y7 y8;unfold Lw_CloudSpans.j2
      repeat' with_reducible first
        |exact ih0 ..
        |exact ih1 ..
        |exact ih2 ..
        |exact ih3 ..
        |exact ih4 ..
        |exact L_Attenuated.mono ..
        |exact L_UndoneIn.mono ..
        |exact Bs_Fracs.mono ..
        |exact Lw_awake.mono ..
        |exact Rf_BreakErr.mono ..
        |exact Rf_ProfileErr.mono ..
        |exact Rf_SameSpans.mono ..
        |exact Rf_SharesErr.mono ..
        |exact Rf_Signals.mono ..
        |exact Rf_Spans.mono ..
        |exact LeO.refl ..
        |exact LeO.none ..
        |refine LeO.ite ?_ ?_
        |refine LeO.bind ?_ (fun _=>?_)
    · intro y0 y1 y2 y3 y4 y5 y6 y7 y8;unfold Lw_CloudSpans.j3
      repeat' with_reducible first
        |exact ih0 ..
        |exact ih1 ..
        |exact ih2 ..
        |exact ih3 ..
        |exact ih4 ..
        |exact L_Attenuated.mono ..
        |exact L_UndoneIn.mono ..
        |exact Bs_Fracs.mono ..
        |exact Lw_awake.mono ..
        |exact Rf_BreakErr.mono ..
        |exact Rf_ProfileErr.mono ..
        |exact Rf_SameSpans.mono ..
        |exact Rf_SharesErr.mono ..
        |exact Rf_Signals.mono ..
        |exact Rf_Spans.mono ..
        |exact LeO.refl ..
        |exact LeO.none ..
        |refine LeO.ite ?_ ?_
        |refine LeO.bind ?_ (fun _=>?_)
    · intro y0 y1 y2 y3 y4 y5;unfold Lw_CloudSpans.j4
      repeat' with_reducible first
        |exact ih0 ..
        |exact ih1 ..
        |exact ih2 ..
        |exact ih3 ..
        |exact ih4 ..
        |exact L_Attenuated.mono ..
        |exact L_UndoneIn.mono ..
        |exact Bs_Fracs.mono ..
        |exact Lw_awake.mono ..
        |exact Rf_BreakErr.mono ..
        |exact Rf_ProfileErr.mono ..
        |exact Rf_SameSpans.mono ..
        |exact Rf_SharesErr.mono ..
        |exact Rf_Signals.mono ..
        |exact Rf_Spans.mono ..
        |exact LeO.refl ..
        |exact LeO.none ..
        |refine LeO.ite ?_ ?_
        |refine LeO.bind ?_ (fun _=>?_)
theorem Lw_CloudSpans.mono:∀ a0 a1 a2 a3 k,LeO (Lw_CloudSpans.f k a0 a1 a2 a3) (Lw_CloudSpans.f (k+1) a0 a1 a2 a3):=by
  intro a0 a1 a2 a3 k;obtain⟨ih0,ih1,ih2,ih3,ih4⟩:=Lw_CloudSpans.mono_l k;unfold Lw_CloudSpans.f
  repeat' with_reducible first
    |exact ih0 ..
    |exact ih1 ..
    |exact ih2 ..
    |exact ih3 ..
    |exact ih4 ..
    |exact L_Attenuated.mono ..
    |exact L_UndoneIn.mono ..
    |exact Bs_Fracs.mono ..
    |exact Lw_awake.mono ..
    |exact Rf_BreakErr.mono ..
    |exact Rf_ProfileErr.mono ..
    |exact Rf_SameSpans.mono ..
    |exact Rf_SharesErr.mono ..
    |exact Rf_Signals.mono ..
    |exact Rf_Spans.mono ..
    |exact LeO.refl ..
    |exact LeO.none ..
    |refine LeO.ite ?_ ?_
    |refine LeO.bind ?_ (fun _=>?_)
def Lw_CloudSpans.T5:Bool×List (List Nat×List Nat):=(true,[([],[]),([0],[0]),([],[]),([1,2,1],[1,2]),([3],[3]),([4],[4]),([4],[4]),([5,3,0,1,2,3,4,5],[5]),([6,7,0,1,2,3,4,5,6,7],[6])])
def Lw_CloudSpans.B5:List Nat:=[0,1,0,7,15,31,31,63,255]
theorem Lw_CloudSpans.tab5:rtab .any (opsOf Tryz.f5 5)=Lw_CloudSpans.T5:=by kernel_rfl
theorem Lw_CloudSpans.bits5:waitsOk Lw_CloudSpans.T5.2 Lw_CloudSpans.B5=true:=by kernel_rfl
def Lw_CloudSpans.T6:Bool×List (List Nat×List Nat):=(true,[([],[]),([0],[0]),([],[]),([2],[2]),([1,3,1],[1,3]),([4],[4]),([5],[5]),([5],[5]),([6,4,0,1,2,3,4,5,6],[6]),([7,8,0,1,2,3,4,5,6,7,8],[7])])
def Lw_CloudSpans.B6:List Nat:=[0,1,0,4,15,31,63,63,127,511]
theorem Lw_CloudSpans.tab6:rtab .any (opsOf Tryz.f5 6)=Lw_CloudSpans.T6:=by kernel_rfl
theorem Lw_CloudSpans.bits6:waitsOk Lw_CloudSpans.T6.2 Lw_CloudSpans.B6=true:=by kernel_rfl
def Lw_CloudSpans.T7:Bool×List (List Nat×List Nat):=(true,[([],[]),([0],[0]),([],[]),([2],[2]),([3,1],[3]),([],[]),([5],[5]),([6,4],[6]),([4,7,7],[4,7]),([1,8,8],[1,8]),([9,9,0,1,2,3,4,5,6,7,8,9],[9])])
def Lw_CloudSpans.B7:List Nat:=[0,1,0,4,15,0,32,127,255,511,1023]
theorem Lw_CloudSpans.tab7:rtab .any (opsOf Tryz.f5 7)=Lw_CloudSpans.T7:=by kernel_rfl
theorem Lw_CloudSpans.bits7:waitsOk Lw_CloudSpans.T7.2 Lw_CloudSpans.B7=true:=by kernel_rfl
theorem Lw_CloudSpans.calls (k : Nat) (A0:Option Addr) (c0:Nat) (l0:List Int) (a1_0:Int) (a1_1:Int) (A2:Option Addr) (c2:Nat) (l2:List (S24)) (r:Bool) (w:World) (hr0:Kd.C (Kd.int .i64) w A0 l0.length l0) (hc0:l0.length≤c0) (hr2:Kd.C k24 w A2 l2.length l2) (hc2:l2.length≤c2) (H:Lw_CloudSpans.f k l0 a1_0 a1_1 l2=some r):
    Calls Tryz.prog 5 #[.slice A0 l0.length c0,.agg #[.int .i64 a1_0,.int .i64 a1_1],.slice A2 l2.length c2] w fun e w'=>e= .returned (.bool r)∧Below w.heap.size w w':=by
  have hu40:=Tryz.underlying40;have HR0:=m0 hr0;have HC0:=m0 hc0;clear hr0 hc0;have HR2:=m0 hr2;have HC2:=m0 hc2;clear hr2 hc2;have HB:=m0 (Below.refl w.heap.size w);unfold Lw_CloudSpans.f at H;replace H:=oa H;obtain⟨t1170,A4,H⟩:=H;(try dsimp only at H)
  by_cases c5:t1170=true
  · subst c5; rw [if_pos rfl] at H; have HC6:=m0 H;clear H;go_enter Tryz.func5,Tryz.ntmps5
    go_upto_region 3 with (first|((with_reducible refine ga 4 rfl ?_);(try(refine gate_guard (by rfl) ?_;dsimp only));refine be 4 40 #[.int .i64 a1_0,.int .i64 a1_1] ?_;intro gb1169 hg w7 hbox hb;have BK1169:=m0 hbox;have GE1169:=gw w hg;replace HB:=sb HB hb;clear hb hbox hg)|((with_reducible refine gc 7 rfl ?_);refine gl (some 14) Tryz.func7 #[] ?_;(with_reducible refine(Lw_awake.calls k  true _ A4.out).mono ?_);rintro e w8 ⟨rfl,hb⟩;refine⟨_,rfl,?_⟩;replace BK1169:=bb BK1169 hb;replace HB:=sb HB hb;(try clear hb)))
    (try simp only[Act.put,List.setIfInBounds_toArray,List.set_cons_zero,List.set_cons_succ])
    go_cut [23] (fun v23 wc=>∃ (kq:Nat) (x23_5:Bool),v23= .bool x23_5∧Aside0 (Lw_CloudSpans.j0 kq l0 l2 x23_5 a1_0 a1_1=some r)∧Aside0 (kq≤k)∧Aside0 (wc.heap[gb1169]?=some (.cells #[.int .i64 a1_0,.int .i64 a1_1] 40 (0,0)))∧Aside0 (Below w.heap.size w wc))
    case first=>
      have H:=HC6.out;clear HC6;replace H:=oa H;obtain⟨t1171,A9,H⟩:=H;(try dsimp only at H)
      by_cases c10:t1171=true
      · subst c10;rw[if_pos rfl]at H;have H':=m0 H;clear H
        go_wp2_with (first|((with_reducible refine gc 8 rfl ?_);refine gl (some 17) Tryz.func8 #[.slice A0 l0.length c0] ?_;(with_reducible refine(Lw_few.calls _ _ l0 true _ ?side1 ?side2 A9.out).mono ?_);(case side1=>exact cb HR0 HB);(case side2=>exact HC0.out);rintro e w' ⟨rfl,⟨nd,rfl⟩⟩;refine⟨_,rfl,?_⟩))
        go_meet
        case rel=>exact⟨_,(decide ((l2.length:Int)>26)),rz,H',⟨by first|omega|exact Nat.le_refl _⟩,⟨bk BK1169.out⟩,⟨bz⟩⟩
      · replace c10:=Bool.eq_false_iff.mpr c10;subst c10;rw[if_neg (show ¬ (false=true) by decide)]at H;have H':=m0 H;clear H
        go_wp2_with (first|((with_reducible refine gc 8 rfl ?_);refine gl (some 17) Tryz.func8 #[.slice A0 l0.length c0] ?_;(with_reducible refine(Lw_few.calls _ _ l0 false _ ?side1 ?side2 A9.out).mono ?_);(case side1=>exact cb HR0 HB);(case side2=>exact HC0.out);rintro e w' ⟨rfl,⟨nd,rfl⟩⟩;refine⟨_,rfl,?_⟩))
        go_meet
        case rel=>exact⟨_,(true),rz,H',⟨by first|omega|exact Nat.le_refl _⟩,⟨bk BK1169.out⟩,⟨bz⟩⟩
    case rest =>
      clear HC6;obtain⟨kq,x23_5,rfl,HA,HJ5,BK1169,HB⟩:=hcut
      cases kq with
      |zero=>exact absurd HA.out (by simp[Lw_CloudSpans.j0])
      | succ kj5 =>
        have H:=HA.out;clear HA;simp only[Lw_CloudSpans.j0]at H
        by_cases c11:x23_5=true
        · subst c11;rw[if_pos rfl]at H;obtain rfl:=Option.some.inj H
          go_wp2
          go_ret
          exact ez
        · replace c11 := Bool.eq_false_iff.mpr c11;subst c11;rw[if_neg (show ¬ (false=true) by decide)]at H;replace H:=oa H;obtain⟨t1172,A12,H⟩:=H;(try dsimp only at H);replace H:=oa H;obtain⟨⟨t1175,t1178⟩,A13,H⟩:=H;(try dsimp only at H);replace H:=oa H;obtain⟨t1179,A14,H⟩:=H;(try dsimp only at H);replace H:=oa H;obtain⟨⟨t1182,t1183⟩,A15,H⟩:=H;(try dsimp only at H);replace H:=oa H;obtain⟨t1186,A16,H⟩:=H;(try dsimp only at H);replace H:=oa H;obtain⟨t1187,A17,H⟩:=H;(try dsimp only at H);replace H:=oa H;obtain⟨t1188,A18,H⟩:=H;(try dsimp only at H);replace H:=oa H;obtain⟨t1189,A19,H⟩:=H;(try dsimp only at H);replace H:=oa H;obtain⟨t1190,A20,H⟩:=H;(try dsimp only at H);have HC21:=m0 H;clear H
          try go_wp2
          replace BK1169:=bd BK1169;replace HB:=sd HB;refine start_ (n:=9) (S:=fun w'=>w'.cell? ⟨gb1169,0,none⟩=some (.int .i64 a1_0)∧w'.cell? ⟨gb1169,1,none⟩=some (.int .i64 a1_1)) (ds:=[]) _ (by kernel_rfl) rfl rfl cz (fun hH=>?_);refine with_tabW Lw_CloudSpans.tab5 Lw_CloudSpans.bits5 (fun HT_ HW_=>?_);generalize wc.drew=w22 at BK1169 HB hH ⊢;refine pZ 0 (some 25) (bs 9 1) HT_ ?_;refine takeZ 2 (some 27) (bs 9 5) (tw HT_ HW_) hH ?_;refine oneZ 1 (some 26) (bs 9 7) (o1 HT_) fun K hK=>?_;refine gz Tryz.func13 #[.slice A0 l0.length c0] ?_
          with_reducible refine(Bs_CopyInts.calls _ _ l0 t1172 _ ?side1 ?side2 A12.out).mono ?_
          (case side1=>exact cb HR0 HB)
          (case side2=>exact HC0.out)
          rintro e w23 ⟨v1173,rfl,ho0,hb⟩;refine⟨_,rfl,?_⟩;have HO1174:=m0 (Kd.R_lower ho0 (below_size bz));replace BK1169:=bb BK1169 hb;replace HB:=sb HB hb;(try clear hb);(try clear ho0);obtain⟨Ao24,co24,eo24⟩:=Kd.R_slice HO1174.out;subst eo24;refine hK.out _ _ cz (fun hH=>?_);clear hK K;refine nz 26 ?_;refine oneZ 3 (some 28) (bs 9 15) (o1 HT_) fun K hK=>?_;refine gz Tryz.func25 #[.slice Ao24 t1172.length co24,.agg #[.int .i64 a1_0,.int .i64 a1_1]] ?_
          with_reducible refine(L_UndoneIn.calls kj5 _ _ t1172 a1_0 a1_1 t1175 t1178 _ ?side1 ?side2 A13.out).mono ?_
          (case side1=>exact bc (Kd.R_reads' HO1174.out).2.2)
          (case side2=>exact(Kd.R_reads' HO1174.out).2.1)
          rintro e w25 ⟨v1176,rfl,ho0,hb⟩;refine⟨_,rfl,?_⟩;replace HO1174:=rb HO1174 hb;have HO1177:=m0 (Kd.R_lower ho0 (below_size bz));replace BK1169:=bb BK1169 hb;replace HB:=sb HB hb;(try clear hb);(try clear ho0);refine hK.out _ _ cz (fun hH=>?_);clear hK K;refine nz 28 ?_;refine pZ 4 (some 24) (bs 9 31) HT_ ?_;refine pZ 5 (some 29) (bs 9 63) HT_ ?_;refine pZ 6 (some 30) (bs 9 127) HT_ ?_;refine pZ 7 (some 7) (bs 9 255) HT_ ?_;refine pZ 8 (some 8) (bs 9 511) HT_ ?_;refine done_ (done_of HT_.out (by kernel_rfl)) ?_
          try go_wp2
          replace HO1174:=m0 (Kd.R_drew HO1174.out);replace HO1177:=m0 (Kd.R_drew HO1177.out);replace BK1169:=bd BK1169;replace HB:=sd HB;refine start_ (n:=10) (S:=fun w'=>w'.cell? ⟨gb1169,0,none⟩=some (.int .i64 a1_0)∧w'.cell? ⟨gb1169,1,none⟩=some (.int .i64 a1_1)) (ds:=[]) _ (by kernel_rfl) rfl rfl cz (fun hH=>?_);refine with_tabW Lw_CloudSpans.tab6 Lw_CloudSpans.bits6 (fun HT_ HW_=>?_);generalize w25.drew=w26 at HO1174 HO1177 BK1169 HB hH ⊢;refine pZ 0 (some 32) (bs 10 1) HT_ ?_;refine pZ 2 (some 34) (bs 10 5) HT_ ?_;refine takeZ 3 (some 35) (bs 10 13) (tw HT_ HW_) hH ?_;refine oneZ 1 (some 33) (bs 10 15) (o1 HT_) fun K hK=>?_;refine gz Tryz.func27 #[.slice A2 l2.length c2] ?_
          with_reducible refine(Bs_CopyFracs.calls _ _ l2 t1179 _ ?side1 ?side2 A14.out).mono ?_
          (case side1=>exact cb HR2 HB)
          (case side2=>exact HC2.out)
          rintro e w27 ⟨v1180,rfl,ho0,hb⟩;refine⟨_,rfl,?_⟩;replace HO1174:=rb HO1174 hb;replace HO1177:=rb HO1177 hb;have HO1181:=m0 (Kd.R_lower ho0 (below_size bz));replace BK1169:=bb BK1169 hb;replace HB:=sb HB hb;(try clear hb);(try clear ho0);obtain⟨Ao28,co28,eo28⟩:=Kd.R_slice HO1181.out;subst eo28;refine hK.out _ _ cz (fun hH=>?_);clear hK K;refine nz 33 ?_;refine oneZ 4 (some 36) (bs 10 31) (o1 HT_) fun K hK=>?_;refine gz Tryz.func26 #[.slice Ao28 t1179.length co28,.int .i64 a1_0] ?_
          with_reducible refine(L_Attenuated.calls kj5 _ _ t1179 a1_0 t1182 t1183 _ ?side1 ?side2 A15.out).mono ?_
          (case side1=>exact bc (Kd.R_reads' HO1181.out).2.2)
          (case side2=>exact(Kd.R_reads' HO1181.out).2.1)
          rintro e w29 ⟨v1184,rfl,ho0,hb⟩;refine⟨_,rfl,?_⟩;replace HO1174:=rb HO1174 hb;replace HO1177:=rb HO1177 hb;have HO1185:=m0 (Kd.R_lower (Kd.R_new' ho0 (Kd.R_lt (br HO1181.out))) (below_size bz));replace HO1181:=m0 (Kd.R_elder' (br HO1181.out) (Kd.R_base ho0) hb);replace BK1169:=bb BK1169 hb;replace HB:=sb HB hb;(try clear hb);(try clear ho0);refine hK.out _ _ cz (fun hH=>?_);clear hK K;refine nz 36 ?_;refine pZ 5 (some 31) (bs 10 63) HT_ ?_;refine pZ 6 (some 37) (bs 10 127) HT_ ?_;refine pZ 7 (some 38) (bs 10 255) HT_ ?_;refine pZ 8 (some 9) (bs 10 511) HT_ ?_;refine pZ 9 (some 10) (bs 10 1023) HT_ ?_;refine done_ (done_of HT_.out (by kernel_rfl)) ?_
          try go_wp2
          replace HO1174:=m0 (Kd.R_drew HO1174.out);replace HO1177:=m0 (Kd.R_drew HO1177.out);replace HO1181:=m0 (Kd.R_drew HO1181.out);replace HO1185:=m0 (Kd.R_drew HO1185.out);replace BK1169:=bd BK1169;replace HB:=sd HB;refine start_ (n:=11) (S:=fun w'=>w'.cell? ⟨gb1169,0,none⟩=some (.int .i64 a1_0)∧w'.cell? ⟨gb1169,1,none⟩=some (.int .i64 a1_1)) (ds:=[]) _ (by kernel_rfl) rfl rfl cz (fun hH=>?_);refine with_tabW Lw_CloudSpans.tab7 Lw_CloudSpans.bits7 (fun HT_ HW_=>?_);generalize w29.drew=w30 at HO1174 HO1177 HO1181 HO1185 BK1169 HB hH ⊢;refine pZ 0 (some 39) (bs 11 1) HT_ ?_;refine pZ 2 (some 41) (bs 11 5) HT_ ?_;refine pZ 5 (some 44) (bs 11 37) HT_ ?_;refine takeZ 3 (some 42) (bs 11 45) (tw HT_ HW_) hH ?_;refine takeZ 6 (some 45) (bs 11 109) (tw HT_ HW_) hH ?_;refine oneZ 1 (some 40) (bs 11 111) (o1 HT_) fun K hK=>?_;refine gz Tryz.func9 #[.slice A0 l0.length c0] ?_
          with_reducible refine(Rf_ProfileErr.calls kj5 _ _ l0 t1186 _ ?side1 ?side2 A16.out).mono ?_
          (case side1=>exact cb HR0 HB)
          (case side2=>exact HC0.out)
          rintro e w' ⟨rfl,⟨nd,rfl⟩⟩;refine⟨_,rfl,?_⟩;refine hK.out _ _ cz (fun hH=>?_);clear hK K;refine nz 40 ?_;refine oneZ 4 (some 43) (bs 11 127) (o1 HT_) fun K hK=>?_;refine gz Tryz.func14 #[.int .i64 a1_0] ?_
          with_reducible refine(Rf_ConstantErr.calls a1_0 t1187 _ A17.out).mono ?_
          rintro e w' ⟨rfl,⟨nd,rfl⟩⟩;refine⟨_,rfl,?_⟩;refine hK.out _ _ cz (fun hH=>?_);clear hK K;refine nz 43 ?_;refine oneZ 7 (some 46) (bs 11 255) (o1 HT_) fun K hK=>?_;refine gz Tryz.func14 #[.int .i64 a1_1] ?_
          with_reducible refine(Rf_ConstantErr.calls a1_1 t1188 _ A18.out).mono ?_
          rintro e w' ⟨rfl,⟨nd,rfl⟩⟩;refine⟨_,rfl,?_⟩;refine hK.out _ _ cz (fun hH=>?_);clear hK K;refine nz 46 ?_;refine oneZ 8 (some 47) (bs 11 511) (o1 HT_) fun K hK=>?_;refine gz Tryz.func19 #[.int .i64 t1187,.int .i64 t1188] ?_
          with_reducible refine(Lw_both.calls t1187 t1188 t1189 _ A19.out).mono ?_
          rintro e w' ⟨rfl,⟨nd,rfl⟩⟩;refine⟨_,rfl,?_⟩;refine hK.out _ _ cz (fun hH=>?_);clear hK K;refine nz 47 ?_;refine oneZ 9 (some 48) (bs 11 1023) (o1 HT_) fun K hK=>?_;refine gz Tryz.func19 #[.int .i64 t1186,.int .i64 t1189] ?_
          with_reducible refine(Lw_both.calls t1186 t1189 t1190 _ A20.out).mono ?_
          rintro e w' ⟨rfl,⟨nd,rfl⟩⟩;refine⟨_,rfl,?_⟩;refine hK.out _ _ cz (fun hH=>?_);clear hK K;refine nz 48 ?_;refine pZ 10 (some 11) (bs 11 2047) HT_ ?_;refine done_ (done_of HT_.out (by kernel_rfl)) ?_
          go_upto_region 8 with (fail)
          go_cut [57] (fun v57 wc=>∃ (kq:Nat) (x57_20:Bool),v57= .bool x57_20∧Aside0 (Lw_CloudSpans.j1 kq l0 l2 t1175 t1178 t1182 t1183 t1190 x57_20 a1_0 a1_1=some r)∧Aside0 (kq≤kj5)∧Aside0 (Kd.R k74 74 wc w.heap.size (fun _=>True) v1176 t1175)∧Aside0 (Kd.R k24 24 wc w.heap.size (fun _=>True) v1184 t1182)∧Aside0 (wc.heap[gb1169]?=some (.cells #[.int .i64 a1_0,.int .i64 a1_1] 40 (0,0)))∧Aside0 (Below w.heap.size w wc))
          case first=>
            have H:=HC21.out;clear HC21
            by_cases c31:t1190=0
            · rw[if_pos c31]at H;have c31b0:=beq_iff_eq.mpr c31;have c31b1:=bne_eq_false_iff_eq.mpr c31;clear c31
              (first|rw[c31b0]|(simp only[i64_w,i32_w];rw[c31b0])|skip)
              have H':=m0 H;clear H;obtain⟨hcz32_0,hcz32_1,hfz32_0,hfz32_1⟩:=b2 BK1169
              go_wp2
              go_meet
              case rel=>exact⟨_,(decide (a1_0>a1_1)),rz,H',⟨by have:=HJ5.out;first|omega|exact Nat.le_refl _⟩,⟨br HO1177.out⟩,⟨by (with_reducible repeat(first|apply Kd.R_alloc|apply Kd.R_drewN|apply Kd.R_drew));exact Kd.R_mono HO1185.out (fun _ hk=>trivial)⟩,⟨bk BK1169.out⟩,⟨bz⟩⟩
            · rw[if_neg c31]at H;have c31b0:=beq_eq_false_iff_ne.mpr c31;have c31b1:=bne_iff_ne.mpr c31
              (first|rw[c31b0]|(simp only[i64_w,i32_w];rw[c31b0])|skip)
              have H':=m0 H;clear H
              go_wp2
              go_meet
              case rel=>exact⟨_,(false),rz,H',⟨by have:=HJ5.out;first|omega|exact Nat.le_refl _⟩,⟨br HO1177.out⟩,⟨by (with_reducible repeat(first|apply Kd.R_alloc|apply Kd.R_drewN|apply Kd.R_drew));exact Kd.R_mono HO1185.out (fun _ hk=>trivial)⟩,⟨bk BK1169.out⟩,⟨bz⟩⟩
          case rest =>
            clear HC21
            try clear hcz32_0
            try clear hcz32_1
            try clear hfz32_0
            try clear hfz32_1
            obtain⟨kq,x57_20,rfl,HA,HJ20,HO_7,HO_9,BK1169,HB⟩:=hcut
            cases kq with
            |zero=>exact absurd HA.out (by simp[Lw_CloudSpans.j1])
            | succ kj20 =>
              have H:=HA.out;clear HA;simp only[Lw_CloudSpans.j1]at H;have HC33:=m0 H;clear H
              go_upto_if 57 with (fail)
              go_cut [11] (fun v11 wc=>∃ (kq:Nat) (x11_32:Int),v11= .int .i64 x11_32∧Aside0 (Lw_CloudSpans.j2 kq l0 l2 t1175 t1178 t1182 t1183 x11_32 a1_0 a1_1=some r)∧Aside0 (kq≤kj20)∧Aside0 (Kd.R k74 74 wc w.heap.size (fun _=>True) v1176 t1175)∧Aside0 (Kd.R k24 24 wc w.heap.size (fun _=>True) v1184 t1182)∧Aside0 (wc.heap[gb1169]?=some (.cells #[.int .i64 a1_0,.int .i64 a1_1] 40 (0,0)))∧Aside0 (Below w.heap.size w wc))
              case first=>
                have H:=HC33.out;clear HC33
                by_cases c34:x57_20=true
                · subst c34;rw[if_pos rfl]at H;have H':=m0 H;clear H
                  go_wp2
                  go_meet
                  case rel=>exact⟨_,(9),rz,H',⟨by have:=HJ5.out;have:=HJ20.out;first|omega|exact Nat.le_refl _⟩,⟨br HO_7.out⟩,⟨br HO_9.out⟩,⟨bk BK1169.out⟩,⟨bz⟩⟩
                · replace c34:=Bool.eq_false_iff.mpr c34;subst c34;rw[if_neg (show ¬ (false=true) by decide)]at H;have H':=m0 H;clear H
                  go_wp2
                  go_meet
                  case rel=>exact⟨_,(t1190),rz,H',⟨by have:=HJ5.out;have:=HJ20.out;first|omega|exact Nat.le_refl _⟩,⟨br HO_7.out⟩,⟨br HO_9.out⟩,⟨bk BK1169.out⟩,⟨bz⟩⟩
              case rest =>
                clear HC33
                try clear hcz32_0
                try clear hcz32_1
                try clear hfz32_0
                try clear hfz32_1
                obtain⟨kq,x11_32,rfl,HA,HJ32,HO_7,HO_9,BK1169,HB⟩:=hcut
                cases kq with
                |zero=>exact absurd HA.out (by simp[Lw_CloudSpans.j2])
                | succ kj32 =>
                  have H:=HA.out;clear HA;simp only[Lw_CloudSpans.j2]at H;have HC35:=m0 H;clear H
                  go_upto_if 59 with (fail)
                  go_cut [11] (fun v11 wc=>∃ (kq:Nat) (x11_34:Int),v11= .int .i64 x11_34∧Aside0 (Lw_CloudSpans.j3 kq l0 l2 t1175 t1178 t1182 t1183 x11_34 a1_0 a1_1=some r)∧Aside0 (kq≤kj32)∧Aside0 (Kd.R k74 74 wc w.heap.size (fun _=>True) v1176 t1175)∧Aside0 (Kd.R k24 24 wc w.heap.size (fun _=>True) v1184 t1182)∧Aside0 (wc.heap[gb1169]?=some (.cells #[.int .i64 a1_0,.int .i64 a1_1] 40 (0,0)))∧Aside0 (Below w.heap.size w wc))
                  case first=>
                    have H:=HC35.out;clear HC35
                    by_cases c36:x11_32=0
                    · rw[if_pos c36]at H;have c36b0:=beq_iff_eq.mpr c36;have c36b1:=bne_eq_false_iff_eq.mpr c36;clear c36
                      (first|rw[c36b0]|(simp only[i64_w,i32_w];rw[c36b0])|skip)
                      replace H:=oa H;obtain⟨t1191,A37,H⟩:=H;(try dsimp only at H);have H':=m0 H;clear H;obtain⟨hcz38_0,hcz38_1,hfz38_0,hfz38_1⟩:=b2 BK1169
                      go_wp2_with (first|((with_reducible refine gc 28 rfl ?_);refine gl (some 63) Tryz.func28 #[.slice A0 l0.length c0,.int .i64 a1_0] ?_;(with_reducible refine(Rf_BreakErr.calls kj32 _ _ l0 a1_0 t1191 _ ?side1 ?side2 A37.out).mono ?_);(case side1=>exact cb HR0 HB);(case side2=>exact HC0.out);rintro e w' ⟨rfl,⟨nd,rfl⟩⟩;refine⟨_,rfl,?_⟩))
                      go_meet
                      case rel=>exact⟨_,(t1191),rz,H',⟨by have:=HJ5.out;have:=HJ20.out;have:=HJ32.out;first|omega|exact Nat.le_refl _⟩,⟨br HO_7.out⟩,⟨br HO_9.out⟩,⟨bk BK1169.out⟩,⟨bz⟩⟩
                    · rw[if_neg c36]at H;have c36b0:=beq_eq_false_iff_ne.mpr c36;have c36b1:=bne_iff_ne.mpr c36
                      (first|rw[c36b0]|(simp only[i64_w,i32_w];rw[c36b0])|skip)
                      have H':=m0 H;clear H
                      go_wp2
                      go_meet
                      case rel=>exact⟨_,(x11_32),rz,H',⟨by have:=HJ5.out;have:=HJ20.out;have:=HJ32.out;first|omega|exact Nat.le_refl _⟩,⟨br HO_7.out⟩,⟨br HO_9.out⟩,⟨bk BK1169.out⟩,⟨bz⟩⟩
                  case rest =>
                    clear HC35
                    try clear hcz32_0
                    try clear hcz32_1
                    try clear hcz38_0
                    try clear hcz38_1
                    try clear hfz32_0
                    try clear hfz32_1
                    try clear hfz38_0
                    try clear hfz38_1
                    obtain⟨kq,x11_34,rfl,HA,HJ34,HO_7,HO_9,BK1169,HB⟩:=hcut
                    cases kq with
                    |zero=>exact absurd HA.out (by simp[Lw_CloudSpans.j3])
                    | succ kj34 =>
                      have H:=HA.out;clear HA;simp only[Lw_CloudSpans.j3]at H;have HC39:=m0 H;clear H
                      go_upto_region 12 with (fail)
                      go_cut [91] (fun v91 wc=>∃ (kq:Nat) (x91_38:Bool),v91= .bool x91_38∧Aside0 (Lw_CloudSpans.j4 kq l2 t1182 t1183 x91_38 a1_0 a1_1=some r)∧Aside0 (kq≤kj34)∧Aside0 (Kd.R k24 24 wc w.heap.size (fun _=>True) v1184 t1182)∧Aside0 (wc.heap[gb1169]?=some (.cells #[.int .i64 a1_0,.int .i64 a1_1] 40 (0,0)))∧Aside0 (Below w.heap.size w wc))
                      case first=>
                        have H:=HC39.out;clear HC39
                        by_cases c40:x11_34=0
                        · rw[if_pos c40]at H;have c40b0:=beq_iff_eq.mpr c40;have c40b1:=bne_eq_false_iff_eq.mpr c40;clear c40
                          (first|rw[c40b0]|(simp only[i64_w,i32_w];rw[c40b0])|skip)
                          by_cases c41:t1178=0
                          · rw[if_pos c41]at H;have c41b0:=beq_iff_eq.mpr c41;have c41b1:=bne_eq_false_iff_eq.mpr c41;clear c41;replace H:=oa H;obtain⟨t1192,A42,H⟩:=H;(try dsimp only at H);replace H:=oa H;obtain⟨t1195,A43,H⟩:=H;(try dsimp only at H);have H':=m0 H;clear H;obtain⟨hcz44_0,hcz44_1,hfz44_0,hfz44_1⟩:=b2 BK1169
                            go_wp2_with (first|(go_at_call 30;(with_reducible refine(Rf_Spans.calls kj34 _ _ l0 a1_0 a1_1 t1192 _ ?side1 ?side2 A42.out).mono ?_);(case side1=>exact cb HR0 HB);(case side2=>exact HC0.out);rintro e w45 ⟨v1193,rfl,ho0,hb⟩;replace HO_9:=rb HO_9 hb;have HO1194:=m0 (Kd.R_lower (Kd.R_new' ho0 (Kd.R_lt (br HO_7.out))) (below_size bz));replace HO_7:=m0 (Kd.R_elder' (br HO_7.out) (Kd.R_base ho0) hb);replace BK1169:=bb BK1169 hb;replace HB:=sb HB hb;(try clear hb);(try clear ho0);obtain⟨Ao46,co46,eo46⟩:=Kd.R_slice HO_7.out;subst eo46;obtain⟨Ao47,co47,eo47⟩:=Kd.R_slice HO1194.out;subst eo47)|(go_at_call 29;(with_reducible refine(Rf_SameSpans.calls kj34 _ _ t1175 _ _ t1192 t1195 _ ?side1 ?side2 ?side3 ?side4 A43.out).mono ?_);(case side1=>exact bc (Kd.R_reads' HO_7.out).2.2);(case side2=>exact(Kd.R_reads' HO_7.out).2.1);(case side3=>exact bc (Kd.R_reads' HO1194.out).2.2);(case side4=>exact(Kd.R_reads' HO1194.out).2.1);rintro e w' ⟨rfl,⟨nd,rfl⟩⟩))
                            go_meet
                            case rel=>exact⟨_,(!t1195),rz,H',⟨by have:=HJ5.out;have:=HJ20.out;have:=HJ32.out;have:=HJ34.out;first|omega|exact Nat.le_refl _⟩,⟨br HO_9.out⟩,⟨bk BK1169.out⟩,⟨bz⟩⟩
                          · rw[if_neg c41]at H;exact absurd H (by simp)
                        · rw [if_neg c40]at H;have c40b0:=beq_eq_false_iff_ne.mpr c40;have c40b1:=bne_iff_ne.mpr c40
                          (first|rw[c40b0]|(simp only[i64_w,i32_w];rw[c40b0])|skip)
                          by_cases c48:t1178=x11_34
                          · rw[if_pos c48]at H;have c48b0:=beq_iff_eq.mpr c48;have c48b1:=bne_eq_false_iff_eq.mpr c48;clear c48
                            by_cases c49:(t1175.length:Int)=0
                            · rw[if_pos c49]at H;have c49b0:=beq_iff_eq.mpr c49;have c49b1:=bne_eq_false_iff_eq.mpr c49;clear c49;have H':=m0 H;clear H;obtain⟨Ao50,co50,eo50⟩:=Kd.R_slice HO_7.out;subst eo50
                              go_wp2
                              go_meet
                              case rel=>exact⟨_,(false),rz,H',⟨by have:=HJ5.out;have:=HJ20.out;have:=HJ32.out;have:=HJ34.out;first|omega|exact Nat.le_refl _⟩,⟨br HO_9.out⟩,⟨bk BK1169.out⟩,⟨bz⟩⟩
                            · rw[if_neg c49]at H;exact absurd H (by simp)
                          · rw[if_neg c48]at H;exact absurd H (by simp)
                      case rest =>
                        clear HC39
                        try clear hcz32_0
                        try clear hcz32_1
                        try clear hcz38_0
                        try clear hcz38_1
                        try clear hcz44_0
                        try clear hcz44_1
                        try clear hfz32_0
                        try clear hfz32_1
                        try clear hfz38_0
                        try clear hfz38_1
                        try clear hfz44_0
                        try clear hfz44_1
                        obtain⟨kq,x91_38,rfl,HA,HJ38,HO_9,BK1169,HB⟩:=hcut
                        cases kq with
                        |zero=>exact absurd HA.out (by simp[Lw_CloudSpans.j4])
                        | succ kj38 =>
                          have H:=HA.out;clear HA;simp only[Lw_CloudSpans.j4]at H
                          by_cases c51:x91_38=true
                          · subst c51;rw[if_pos rfl]at H;exact absurd H (by simp)
                          · replace c51:=Bool.eq_false_iff.mpr c51;subst c51;rw[if_neg (show ¬ (false=true) by decide)]at H;replace H:=oa H;obtain⟨t1196,A52,H⟩:=H;(try dsimp only at H);replace H:=oa H;obtain⟨t1197,A53,H⟩:=H;(try dsimp only at H);replace H:=oa H;obtain⟨t1198,A54,H⟩:=H;(try dsimp only at H)
                            by_cases c55:t1198=0
                            · rw [if_pos c55]at H;have c55b0:=beq_iff_eq.mpr c55;have c55b1:=bne_eq_false_iff_eq.mpr c55;clear c55;replace H:=oa H;obtain⟨⟨t1199,t1200⟩,A56,H⟩:=H;(try dsimp only at H)
                              by_cases c57:t1200=true
                              · subst c57;rw[if_pos rfl]at H
                                by_cases c58:t1183=0
                                · rw[if_pos c58]at H;have c58b0:=beq_iff_eq.mpr c58;have c58b1:=bne_eq_false_iff_eq.mpr c58;clear c58;replace H:=oa H;obtain⟨t1203,A59,H⟩:=H;(try dsimp only at H);obtain rfl:=Option.some.inj H
                                  try go_wp2
                                  replace HO_9:=m0 (Kd.R_drew HO_9.out);replace BK1169:=bd BK1169;replace HB:=sd HB;refine start_ (n:=7) (S:=fun w'=>w'.cell? ⟨gb1169,0,none⟩=some (.int .i64 a1_0)∧w'.cell? ⟨gb1169,1,none⟩=some (.int .i64 a1_1)) (ds:=[]) _ (by kernel_rfl) rfl rfl cz (fun hH=>?_);generalize wc.drew=w60 at HO_9 BK1169 HB hH ⊢;refine pure_ (i:=0) (N:=some 92) (v:=?_) (a':=?_) (bs 7 1) rfl rfl (by kernel_rfl) (fun _ _ _ h=>h) (Or.inl ⟨by rfl,?_⟩) ?_ ?_;rotate_left
                                  · intro w'
                                    go_simp
                                    with_reducible rfl
                                  rotate_left
                                  · exact pz
                                  refine pure_ (i:=2) (N:=some 94) (v:=?_) (a':=?_) (bs 7 5) rfl rfl (by kernel_rfl) (fun _ _ _ h=>h) (Or.inl ⟨by rfl,?_⟩) ?_ ?_;rotate_left
                                  · intro w'
                                    go_simp
                                    with_reducible rfl
                                  rotate_left
                                  · exact pz
                                  refine takeZ 3 (some 95) (bs 7 13) (by kernel_rfl) hH ?_;refine oneZ 1 (some 93) (bs 7 15) (by kernel_rfl) fun K hK=>?_;refine gz Tryz.func31 #[.slice A2 l2.length c2] ?_
                                  with_reducible refine(Rf_SharesErr.calls kj38 _ _ l2 t1196 _ ?side1 ?side2 A52.out).mono ?_
                                  (case side1=>exact cb HR2 HB)
                                  (case side2=>exact HC2.out)
                                  rintro e w61 ⟨rfl,hb⟩;refine⟨_,rfl,?_⟩;replace HO_9:=rb HO_9 hb;replace BK1169:=bb BK1169 hb;replace HB:=sb HB hb;(try clear hb);refine hK.out _ _ cz (fun hH=>?_);clear hK K;refine nz 93 ?_;refine oneZ 4 (some 96) (bs 7 31) (by kernel_rfl) fun K hK=>?_;refine gz Tryz.func14 #[.int .i64 a1_0] ?_
                                  with_reducible refine(Rf_ConstantErr.calls a1_0 t1197 _ A53.out).mono ?_
                                  rintro e w' ⟨rfl,⟨nd,rfl⟩⟩;refine⟨_,rfl,?_⟩;refine hK.out _ _ cz (fun hH=>?_);clear hK K;refine nz 96 ?_;refine oneZ 5 (some 97) (bs 7 63) (by kernel_rfl) fun K hK=>?_;refine gz Tryz.func19 #[.int .i64 t1196,.int .i64 t1197] ?_
                                  with_reducible refine(Lw_both.calls t1196 t1197 t1198 _ A54.out).mono ?_
                                  rintro e w' ⟨rfl,⟨nd,rfl⟩⟩;refine⟨_,rfl,?_⟩;refine hK.out _ _ cz (fun hH=>?_);clear hK K;refine nz 97 ?_;refine pure_ (i:=6) (N:=some 11) (v:=?_) (a':=?_) (bs 7 127) rfl rfl (by kernel_rfl) (fun _ _ _ h=>h) (Or.inl ⟨by rfl,?_⟩) ?_ ?_;rotate_left
                                  · intro w'
                                    go_simp
                                    with_reducible rfl
                                  rotate_left
                                  · exact pz
                                  refine done_ (by kernel_rfl) ?_;obtain⟨_,_,_,_⟩:=b2 BK1169
                                  try go_wp2_with (first|((with_reducible refine gc 32 rfl ?_);refine gl (some 112) Tryz.func32 #[.slice A2 l2.length c2,.int .i64 a1_0] ?_;(with_reducible refine(Rf_Signals.calls kj38 _ _ l2 a1_0 t1199 true _ ?side1 ?side2 A56.out).mono ?_);(case side1=>exact cd (Kd.C_below HR2.out bz));(case side2=>exact HC2.out);rintro e w63 ⟨v1201,rfl,ho0,hb⟩;refine⟨_,rfl,?_⟩;have HO1202:=m0 (Kd.R_lower (Kd.R_new' ho0 (Kd.R_lt (br HO_9.out))) (below_size bz));replace HO_9:=m0 (Kd.R_elder' (br HO_9.out) (Kd.R_base ho0) hb);replace BK1169:=bb BK1169 hb;replace HB:=sb HB hb;(try clear hb);(try clear ho0);obtain⟨Ao64,co64,eo64⟩:=Kd.R_slice HO_9.out;subst eo64;obtain⟨Ao65,co65,eo65⟩:=Kd.R_slice HO1202.out;subst eo65)|(go_at_call 33;(with_reducible refine(Bs_Fracs.calls kj38 _ _ t1182 _ _ t1199 t1203 _ ?side1 ?side2 ?side3 ?side4 A59.out).mono ?_);(case side1=>exact bc (Kd.R_reads' HO_9.out).2.2);(case side2=>exact(Kd.R_reads' HO_9.out).2.1);(case side3=>exact bc (Kd.R_reads' HO1202.out).2.2);(case side4=>exact(Kd.R_reads' HO1202.out).2.1);rintro e w' ⟨rfl,⟨nd,rfl⟩⟩))
                                  go_ret
                                  exact ez
                                · rw[if_neg c58]at H;exact absurd H (by simp)
                              · replace c57:=Bool.eq_false_iff.mpr c57;subst c57;rw[if_neg (show ¬ (false=true) by decide)]at H
                                by_cases c66:t1183=8
                                · rw[if_pos c66]at H;have c66b0:=beq_iff_eq.mpr c66;have c66b1:=bne_eq_false_iff_eq.mpr c66;clear c66;obtain rfl:=Option.some.inj H
                                  try go_wp2
                                  replace HO_9:=m0 (Kd.R_drew HO_9.out);replace BK1169:=bd BK1169;replace HB:=sd HB;refine start_ (n:=7) (S:=fun w'=>w'.cell? ⟨gb1169,0,none⟩=some (.int .i64 a1_0)∧w'.cell? ⟨gb1169,1,none⟩=some (.int .i64 a1_1)) (ds:=[]) _ (by kernel_rfl) rfl rfl cz (fun hH=>?_);generalize wc.drew=w67 at HO_9 BK1169 HB hH ⊢;refine pure_ (i:=0) (N:=some 92) (v:=?_) (a':=?_) (bs 7 1) rfl rfl (by kernel_rfl) (fun _ _ _ h=>h) (Or.inl ⟨by rfl,?_⟩) ?_ ?_;rotate_left
                                  · intro w'
                                    go_simp
                                    with_reducible rfl
                                  rotate_left
                                  · exact pz
                                  refine pure_ (i:=2) (N:=some 94) (v:=?_) (a':=?_) (bs 7 5) rfl rfl (by kernel_rfl) (fun _ _ _ h=>h) (Or.inl ⟨by rfl,?_⟩) ?_ ?_;rotate_left
                                  · intro w'
                                    go_simp
                                    with_reducible rfl
                                  rotate_left
                                  · exact pz
                                  refine takeZ 3 (some 95) (bs 7 13) (by kernel_rfl) hH ?_;refine oneZ 1 (some 93) (bs 7 15) (by kernel_rfl) fun K hK=>?_;refine gz Tryz.func31 #[.slice A2 l2.length c2] ?_
                                  with_reducible refine(Rf_SharesErr.calls kj38 _ _ l2 t1196 _ ?side1 ?side2 A52.out).mono ?_
                                  (case side1=>exact cb HR2 HB)
                                  (case side2=>exact HC2.out)
                                  rintro e w68 ⟨rfl,hb⟩;refine⟨_,rfl,?_⟩;replace HO_9:=rb HO_9 hb;replace BK1169:=bb BK1169 hb;replace HB:=sb HB hb;(try clear hb);refine hK.out _ _ cz (fun hH=>?_);clear hK K;refine nz 93 ?_;refine oneZ 4 (some 96) (bs 7 31) (by kernel_rfl) fun K hK=>?_;refine gz Tryz.func14 #[.int .i64 a1_0] ?_
                                  with_reducible refine(Rf_ConstantErr.calls a1_0 t1197 _ A53.out).mono ?_
                                  rintro e w' ⟨rfl,⟨nd,rfl⟩⟩;refine⟨_,rfl,?_⟩;refine hK.out _ _ cz (fun hH=>?_);clear hK K;refine nz 96 ?_;refine oneZ 5 (some 97) (bs 7 63) (by kernel_rfl) fun K hK=>?_;refine gz Tryz.func19 #[.int .i64 t1196,.int .i64 t1197] ?_
                                  with_reducible refine(Lw_both.calls t1196 t1197 t1198 _ A54.out).mono ?_
                                  rintro e w' ⟨rfl,⟨nd,rfl⟩⟩;refine⟨_,rfl,?_⟩;refine hK.out _ _ cz (fun hH=>?_);clear hK K;refine nz 97 ?_;refine pure_ (i:=6) (N:=some 11) (v:=?_) (a':=?_) (bs 7 127) rfl rfl (by kernel_rfl) (fun _ _ _ h=>h) (Or.inl ⟨by rfl,?_⟩) ?_ ?_;rotate_left
                                  · intro w'
                                    go_simp
                                    with_reducible rfl
                                  rotate_left
                                  · exact pz
                                  refine done_ (by kernel_rfl) ?_;obtain⟨_,_,_,_⟩:=b2 BK1169
                                  try go_wp2_with (first|((with_reducible refine gc 32 rfl ?_);refine gl (some 112) Tryz.func32 #[.slice A2 l2.length c2,.int .i64 a1_0] ?_;(with_reducible refine(Rf_Signals.calls kj38 _ _ l2 a1_0 t1199 false _ ?side1 ?side2 A56.out).mono ?_);(case side1=>exact cd (Kd.C_below HR2.out bz));(case side2=>exact HC2.out);rintro e w70 ⟨v1201,rfl,ho0,hb⟩;refine⟨_,rfl,?_⟩;have HO1202:=m0 (Kd.R_lower (Kd.R_new' ho0 (Kd.R_lt (br HO_9.out))) (below_size bz));replace HO_9:=m0 (Kd.R_elder' (br HO_9.out) (Kd.R_base ho0) hb);replace BK1169:=bb BK1169 hb;replace HB:=sb HB hb;(try clear hb);(try clear ho0);obtain⟨Ao71,co71,eo71⟩:=Kd.R_slice HO_9.out;subst eo71))
                                  go_ret
                                  exact ez
                                · rw[if_neg c66]at H;exact absurd H (by simp)
                            · rw [if_neg c55]at H;have c55b0:=beq_eq_false_iff_ne.mpr c55;have c55b1:=bne_iff_ne.mpr c55
                              by_cases c72:t1183=t1198
                              · rw[if_pos c72]at H;have c72b0:=beq_iff_eq.mpr c72;have c72b1:=bne_eq_false_iff_eq.mpr c72;clear c72;obtain rfl:=Option.some.inj H
                                try go_wp2
                                replace HO_9:=m0 (Kd.R_drew HO_9.out);replace BK1169:=bd BK1169;replace HB:=sd HB;refine start_ (n:=7) (S:=fun w'=>w'.cell? ⟨gb1169,0,none⟩=some (.int .i64 a1_0)∧w'.cell? ⟨gb1169,1,none⟩=some (.int .i64 a1_1)) (ds:=[]) _ (by kernel_rfl) rfl rfl cz (fun hH=>?_);generalize wc.drew=w73 at HO_9 BK1169 HB hH ⊢;refine pure_ (i:=0) (N:=some 92) (v:=?_) (a':=?_) (bs 7 1) rfl rfl (by kernel_rfl) (fun _ _ _ h=>h) (Or.inl ⟨by rfl,?_⟩) ?_ ?_;rotate_left
                                · intro w'
                                  go_simp
                                  with_reducible rfl
                                rotate_left
                                · exact pz
                                refine pure_ (i:=2) (N:=some 94) (v:=?_) (a':=?_) (bs 7 5) rfl rfl (by kernel_rfl) (fun _ _ _ h=>h) (Or.inl ⟨by rfl,?_⟩) ?_ ?_;rotate_left
                                · intro w'
                                  go_simp
                                  with_reducible rfl
                                rotate_left
                                · exact pz
                                refine takeZ 3 (some 95) (bs 7 13) (by kernel_rfl) hH ?_;refine oneZ 1 (some 93) (bs 7 15) (by kernel_rfl) fun K hK=>?_;refine gz Tryz.func31 #[.slice A2 l2.length c2] ?_
                                with_reducible refine(Rf_SharesErr.calls kj38 _ _ l2 t1196 _ ?side1 ?side2 A52.out).mono ?_
                                (case side1=>exact cb HR2 HB)
                                (case side2=>exact HC2.out)
                                rintro e w74 ⟨rfl,hb⟩;refine⟨_,rfl,?_⟩;replace HO_9:=rb HO_9 hb;replace BK1169:=bb BK1169 hb;replace HB:=sb HB hb;(try clear hb);refine hK.out _ _ cz (fun hH=>?_);clear hK K;refine nz 93 ?_;refine oneZ 4 (some 96) (bs 7 31) (by kernel_rfl) fun K hK=>?_;refine gz Tryz.func14 #[.int .i64 a1_0] ?_
                                with_reducible refine(Rf_ConstantErr.calls a1_0 t1197 _ A53.out).mono ?_
                                rintro e w' ⟨rfl,⟨nd,rfl⟩⟩;refine⟨_,rfl,?_⟩;refine hK.out _ _ cz (fun hH=>?_);clear hK K;refine nz 96 ?_;refine oneZ 5 (some 97) (bs 7 63) (by kernel_rfl) fun K hK=>?_;refine gz Tryz.func19 #[.int .i64 t1196,.int .i64 t1197] ?_
                                with_reducible refine(Lw_both.calls t1196 t1197 t1198 _ A54.out).mono ?_
                                rintro e w' ⟨rfl,⟨nd,rfl⟩⟩;refine⟨_,rfl,?_⟩;refine hK.out _ _ cz (fun hH=>?_);clear hK K;refine nz 97 ?_;refine pure_ (i:=6) (N:=some 11) (v:=?_) (a':=?_) (bs 7 127) rfl rfl (by kernel_rfl) (fun _ _ _ h=>h) (Or.inl ⟨by rfl,?_⟩) ?_ ?_;rotate_left
                                · intro w'
                                  go_simp
                                  with_reducible rfl
                                rotate_left
                                · exact pz
                                refine done_ (by kernel_rfl) ?_;obtain⟨Ao75,co75,eo75⟩:=Kd.R_slice HO_9.out;subst eo75
                                try go_wp2
                                go_ret
                                exact ez
                              · rw[if_neg c72]at H;exact absurd H (by simp)
  · replace c5:=Bool.eq_false_iff.mpr c5;subst c5;rw[if_neg (show ¬ (false=true) by decide)]at H;exact absurd H (by simp)
end Go.Proofs.YteiafijbgjgiaaaGreat.A
