/- Walks of the program's functions (printed, made shorter), each with what it computes. -/
import Derived.Test.YteiafijbgjgiaaaGreatDoorS15
import Derived.Test.YteiafijbgjgiaaaGreatDoorS24
namespace Go.Proofs.YteiafijbgjgiaaaGreatDoor.A
set_option maxHeartbeats 8000000
set_option maxRecDepth 100000
open Go.RowKit Go.Proofs.YteiafijbgjgiaaaGreatDoorW.PrintWords Go.Proofs.YteiafijbgjgiaaaGreatDoorW.PrintLast Go.Proofs.YteiafijbgjgiaaaGreatDoorW.PrintMore
attribute [local go_sem] max2_int min2_int max_two min_two max_three min_three max_four min_four
set_option linter.unusedVariables false
set_option linter.unusedSimpArgs false
mutual
def Lw_CloudStrings.j0:Nat→List Int→List (S64)→ByteArray→Bool→Option (Bool)
  |0,_,_,_,_=>none
  |k+1,x0,x1,x2,x45=>if x45=true then(some true)else((Bs_CopyInts.f x0).bind fun t497=>((L_FormatProfile.f k t497).bind fun t500=>((Rf_CopyLayers.f x1).bind fun t501=>((L_FormatLayers.f k t501).bind fun t504=>((L_ParseProfile.f k x2).bind fun bt505=>((L_ParseLayers.f k x2).bind fun bt509=>((Rf_ParseProfile.f k x2).bind fun bt513=>((Rf_ParseLayers.f k x2).bind fun bt517=>((Rf_FormatProfile.f k x0).bind fun t521=>(if t500.toList=t521.toList then((Rf_FormatLayers.f k x1).bind fun t522=>(if t504.toList=t522.toList then(if bt505.2=bt513.2 then((Bs_Ints.f k bt505.1 bt513.1).bind fun t523=>(if t523=true then(if bt509.2=bt517.2 then((Rf_SameLayers.f k bt509.1 bt517.1).bind fun t524=>(Lw_CloudStrings.j1 k x0 x1 t500 t504 (!t524)))else(none))else(none)))else(none))else(none)))else(none)))))))))))
def Lw_CloudStrings.j1:Nat→List Int→List (S64)→ByteArray→ByteArray→Bool→Option (Bool)
  |0,_,_,_,_,_=>none
  |k+1,x0,x1,x7,x8,x103=>if x103=true then(none)else((Rf_ProfileErr.f k x0).bind fun t525=>(if t525=0 then((L_ParseProfile.f k x7).bind fun bt526=>(if bt526.2=0 then((Bs_Ints.f k bt526.1 x0).bind fun t530=>(if t530=true then(Lw_CloudStrings.j2 k x1 x8)else(none)))else(none)))else(Lw_CloudStrings.j2 k x1 x8)))
def Lw_CloudStrings.j2:Nat→List (S64)→ByteArray→Option (Bool)
  |0,_,_=>none
  |k+1,x1,x8=>(Rf_LayersErr.f k x1).bind fun t531=>(if t531=0 then((L_ParseLayers.f k x8).bind fun bt532=>(if bt532.2=0 then((Rf_SameLayers.f k bt532.1 x1).bind fun t536=>(some t536))else(none)))else(some true))
end
def Lw_CloudStrings.f (k:Nat) (l0:List Int) (l1:List (S64)) (a2:ByteArray):Option (Bool):=(Lw_awake.f k).bind fun t495=>(if t495=true then((Lw_few.f l0).bind fun t496=>(if t496=true then(if(l1.length:Int)>12 then(Lw_CloudStrings.j0 k l0 l1 a2 true)else(if(a2.size:Int)>300 then(if(a2.size:Int)≤60000 then(Lw_CloudStrings.j0 k l0 l1 a2 true)else(Lw_CloudStrings.j0 k l0 l1 a2 (decide ((a2.size:Int)>60010))))else(Lw_CloudStrings.j0 k l0 l1 a2 (decide ((a2.size:Int)>60010)))))else(Lw_CloudStrings.j0 k l0 l1 a2 true)))else(none))
theorem Lw_CloudStrings.mono_l:∀ k,(∀ y0 y1 y2 y3,LeO (Lw_CloudStrings.j0 k y0 y1 y2 y3) (Lw_CloudStrings.j0 (k+1) y0 y1 y2 y3))∧(∀ y0 y1 y2 y3 y4,LeO (Lw_CloudStrings.j1 k y0 y1 y2 y3 y4) (Lw_CloudStrings.j1 (k+1) y0 y1 y2 y3 y4))∧(∀ y0 y1,LeO (Lw_CloudStrings.j2 k y0 y1) (Lw_CloudStrings.j2 (k+1) y0 y1))
  |0=>⟨fun _ _ _ _ r h=>by simp[Lw_CloudStrings.j0]at h,fun _ _ _ _ _ r h=>by simp[Lw_CloudStrings.j1]at h,fun _ _ r h=>by simp[Lw_CloudStrings.j2]at h⟩
  | k + 1=>by
    obtain⟨ih0,ih1,ih2⟩:=Lw_CloudStrings.mono_l k;refine⟨?_,?_,?_⟩
    · intro y0 y1 y2 y3;unfold Lw_CloudStrings.j0
      repeat' with_reducible first
        |exact ih0 ..
        |exact ih1 ..
        |exact ih2 ..
        |exact L_FormatLayers.mono ..
        |exact L_FormatProfile.mono ..
        |exact L_ParseLayers.mono ..
        |exact L_ParseProfile.mono ..
        |exact Bs_Ints.mono ..
        |exact Lw_awake.mono ..
        |exact Rf_FormatLayers.mono ..
        |exact Rf_FormatProfile.mono ..
        |exact Rf_LayersErr.mono ..
        |exact Rf_ParseLayers.mono ..
        |exact Rf_ParseProfile.mono ..
        |exact Rf_ProfileErr.mono ..
        |exact Rf_SameLayers.mono ..
        |exact LeO.refl ..
        |exact LeO.none ..
        |refine LeO.ite ?_ ?_
        |refine LeO.bind ?_ (fun _=>?_)
    · intro y0 y1 y2 y3 y4;unfold Lw_CloudStrings.j1
      repeat' with_reducible first
        |exact ih0 ..
        |exact ih1 ..
        |exact ih2 ..
        |exact L_FormatLayers.mono ..
        |exact L_FormatProfile.mono ..
        |exact L_ParseLayers.mono ..
        |exact L_ParseProfile.mono ..
        |exact Bs_Ints.mono ..
        |exact Lw_awake.mono ..
        |exact Rf_FormatLayers.mono ..
        |exact Rf_FormatProfile.mono ..
        |exact Rf_LayersErr.mono ..
        |exact Rf_ParseLayers.mono ..
        |exact Rf_ParseProfile.mono ..
        |exact Rf_ProfileErr.mono ..
        |exact Rf_SameLayers.mono ..
        |exact LeO.refl ..
        |exact LeO.none ..
        |refine LeO.ite ?_ ?_
        |refine LeO.bind ?_ (fun _=>?_)
    · intro y0 y1;unfold Lw_CloudStrings.j2
      repeat' with_reducible first
        |exact ih0 ..
        |exact ih1 ..
        |exact ih2 ..
        |exact L_FormatLayers.mono ..
        |exact L_FormatProfile.mono ..
        |exact L_ParseLayers.mono ..
        |exact L_ParseProfile.mono ..
        |exact Bs_Ints.mono ..
        |exact Lw_awake.mono ..
        |exact Rf_FormatLayers.mono ..
        |exact Rf_FormatProfile.mono ..
        |exact Rf_LayersErr.mono ..
        |exact Rf_ParseLayers.mono ..
        |exact Rf_ParseProfile.mono ..
        |exact Rf_ProfileErr.mono ..
        |exact Rf_SameLayers.mono ..
        |exact LeO.refl ..
        |exact LeO.none ..
        |refine LeO.ite ?_ ?_
        |refine LeO.bind ?_ (fun _=>?_)
theorem Lw_CloudStrings.mono:∀ a0 a1 a2 k,LeO (Lw_CloudStrings.f k a0 a1 a2) (Lw_CloudStrings.f (k+1) a0 a1 a2):=by
  intro a0 a1 a2 k;obtain⟨ih0,ih1,ih2⟩:=Lw_CloudStrings.mono_l k;unfold Lw_CloudStrings.f
  repeat' with_reducible first
    |exact ih0 ..
    |exact ih1 ..
    |exact ih2 ..
    |exact L_FormatLayers.mono ..
    |exact L_FormatProfile.mono ..
    |exact L_ParseLayers.mono ..
    |exact L_ParseProfile.mono ..
    |exact Bs_Ints.mono ..
    |exact Lw_awake.mono ..
    |exact Rf_FormatLayers.mono ..
    |exact Rf_FormatProfile.mono ..
    |exact Rf_LayersErr.mono ..
    |exact Rf_ParseLayers.mono ..
    |exact Rf_ParseProfile.mono ..
    |exact Rf_ProfileErr.mono ..
    |exact Rf_SameLayers.mono ..
    |exact LeO.refl ..
    |exact LeO.none ..
    |refine LeO.ite ?_ ?_
    |refine LeO.bind ?_ (fun _=>?_)
theorem Lw_CloudStrings.m1 {P:Prop} (h:P:=by
 go_wp2_with (first|((with_reducible refine gc 5 rfl ?_);refine gl (some 24) Tryz.func5 #[.slice A0 l0.length c0] ?_;(with_reducible refine(Lw_few.calls _ _ l0 true _ ?side1 ?side2 A8.out).mono ?_);(case side1=>exact cb HR0 HB);(case side2=>exact HC0.out);rintro e w' ⟨rfl,⟨nd,rfl⟩⟩;refine⟨_,rfl,?_⟩))
 go_meet
 case rel=>exact⟨_,(decide ((a2.size:Int)>60010)),rz,H',⟨by first|omega|exact Nat.le_refl _⟩,⟨bz⟩⟩):P:=h
theorem Lw_CloudStrings.m2 {P:Prop} (h:P:=by
 go_wp2_with (first|((with_reducible refine gc 5 rfl ?_);refine gl (some 24) Tryz.func5 #[.slice A0 l0.length c0] ?_;(with_reducible refine(Lw_few.calls _ _ l0 true _ ?side1 ?side2 A8.out).mono ?_);(case side1=>exact cb HR0 HB);(case side2=>exact HC0.out);rintro e w' ⟨rfl,⟨nd,rfl⟩⟩;refine⟨_,rfl,?_⟩))
 go_meet
 case rel=>exact⟨_,(true),rz,H',⟨by first|omega|exact Nat.le_refl _⟩,⟨bz⟩⟩):P:=h
theorem Lw_CloudStrings.calls (k:Nat) (A0:Option Addr) (c0:Nat) (l0:List Int) (A1:Option Addr) (c1:Nat) (l1:List (S64)) (a2:ByteArray) (r:Bool) (w:World) (hr0:Kd.C (Kd.int .i64) w A0 l0.length l0) (hc0:l0.length≤c0) (hr1:Kd.C k64 w A1 l1.length l1) (hc1:l1.length≤c1) (hG:EstG w) (H:Lw_CloudStrings.f k l0 l1 a2=some r):
    Calls Tryz.prog 3 #[.slice A0 l0.length c0,.slice A1 l1.length c1,.string a2] w fun e w'=>e= .returned (.bool r)∧Below w.heap.size w w':=by
  have HG:=m0 hG;clear hG;have HR0:=m0 hr0;have HC0:=m0 hc0;clear hr0 hc0;have HR1:=m0 hr1;have HC1:=m0 hc1;clear hr1 hc1;have HB:=m0 (Below.refl w.heap.size w);unfold Lw_CloudStrings.f at H;replace H:=oa H;obtain⟨t495,A4,H⟩:=H;(try dsimp only at H)
  by_cases c5:t495=true
  · subst c5; rw [if_pos rfl]at H;have HC6:=m0 H;clear H;go_enter Tryz.func3,Tryz.ntmps3
    go_upto_region 3 with (first|((with_reducible refine gc 4 rfl ?_);refine gl (some 21) Tryz.func4 #[] ?_;(with_reducible refine(Lw_awake.calls k  true _ A4.out).mono ?_);rintro e w7 ⟨rfl,hb⟩;refine⟨_,rfl,?_⟩;replace HB:=sb HB hb;(try clear hb)))
    (try simp only[Act.put,List.setIfInBounds_toArray,List.set_cons_zero,List.set_cons_succ])
    go_cut [45] (fun v45 wc=>∃ (kq:Nat) (x45_5:Bool),v45= .bool x45_5∧Aside0 (Lw_CloudStrings.j0 kq l0 l1 a2 x45_5=some r)∧Aside0 (kq≤k)∧Aside0 (Below w.heap.size w wc))
    case first=>
      have H:=HC6.out;clear HC6;replace H:=oa H;obtain⟨t496,A8,H⟩:=H;(try dsimp only at H)
      by_cases c9:t496=true
      · subst c9;rw[if_pos rfl]at H
        by_cases c10:(l1.length:Int)>12
        · rw[if_pos c10]at H;have c10b0:=decide_eq_true c10;have c10b1:decide (12<l1.length)=true:=decide_eq_true (by omega);clear c10
          (first|rw[c10b0]|(simp only[i64_w,i32_w];rw[c10b0])|skip)
          have H':=m0 H;clear H
          exact Lw_CloudStrings.m2
        · rw [if_neg c10]at H;have c10b0:=decide_eq_false c10;have c10b1:decide (12<l1.length)=false:=decide_eq_false (by omega);clear c10
          (first|rw[c10b0]|(simp only[i64_w,i32_w];rw[c10b0])|skip)
          by_cases c11:(a2.size:Int)>300
          · rw[if_pos c11]at H;have c11b0:=decide_eq_true c11;have c11b1:decide (300<a2.size)=true:=decide_eq_true (by omega);clear c11
            by_cases c12:(a2.size:Int)≤60000
            · rw[if_pos c12]at H;have c12b0:=decide_eq_true c12;have c12b1:decide (a2.size≤60000)=true:=decide_eq_true (by omega);clear c12;have H':=m0 H;clear H
              exact Lw_CloudStrings.m2
            · rw[if_neg c12]at H;have c12b0:=decide_eq_false c12;have c12b1:decide (a2.size≤60000)=false:=decide_eq_false (by omega);clear c12;have H':=m0 H;clear H
              exact Lw_CloudStrings.m1
          · rw[if_neg c11]at H;have c11b0:=decide_eq_false c11;have c11b1:decide (300<a2.size)=false:=decide_eq_false (by omega);clear c11;have H':=m0 H;clear H
            exact Lw_CloudStrings.m1
      · replace c9:=Bool.eq_false_iff.mpr c9;subst c9;rw[if_neg (show ¬ (false=true) by decide)]at H;have H':=m0 H;clear H
        go_wp2_with (first|((with_reducible refine gc 5 rfl ?_);refine gl (some 24) Tryz.func5 #[.slice A0 l0.length c0] ?_;(with_reducible refine(Lw_few.calls _ _ l0 false _ ?side1 ?side2 A8.out).mono ?_);(case side1=>exact cb HR0 HB);(case side2=>exact HC0.out);rintro e w' ⟨rfl,⟨nd,rfl⟩⟩;refine⟨_,rfl,?_⟩))
        go_meet
        case rel=>exact⟨_,(true),rz,H',⟨by first|omega|exact Nat.le_refl _⟩,⟨bz⟩⟩
    case rest =>
      clear HC6;obtain⟨kq,x45_5,rfl,HA,HJ5,HB⟩:=hcut
      cases kq with
      |zero=>exact absurd HA.out (by simp[Lw_CloudStrings.j0])
      | succ kj5 =>
        have H:=HA.out;clear HA;simp only[Lw_CloudStrings.j0]at H
        by_cases c13:x45_5=true
        · subst c13;rw[if_pos rfl]at H;obtain rfl:=Option.some.inj H
          go_wp2
          go_ret
          exact ez
        · replace c13 :=Bool.eq_false_iff.mpr c13;subst c13;rw[if_neg (show ¬ (false=true) by decide)]at H;replace H:=oa H;obtain⟨t497,A14,H⟩:=H;(try dsimp only at H);replace H:=oa H;obtain⟨t500,A15,H⟩:=H;(try dsimp only at H);replace H:=oa H;obtain⟨t501,A16,H⟩:=H;(try dsimp only at H);replace H:=oa H;obtain⟨t504,A17,H⟩:=H;(try dsimp only at H);replace H:=oa H;obtain⟨⟨t505,t506⟩,A18,H⟩:=H;(try dsimp only at H);replace H:=oa H;obtain⟨⟨t509,t510⟩,A19,H⟩:=H;(try dsimp only at H);replace H:=oa H;obtain⟨⟨t513,t514⟩,A20,H⟩:=H;(try dsimp only at H);replace H:=oa H;obtain⟨⟨t517,t518⟩,A21,H⟩:=H;(try dsimp only at H);have HC22:=m0 H;clear H
          go_upto_region 10 with (first|((with_reducible refine gc 7 rfl ?_);refine gl (some 47) Tryz.func7 #[.slice A0 l0.length c0] ?_;(with_reducible refine(Bs_CopyInts.calls _ _ l0 t497 _ ?side1 ?side2 A14.out).mono ?_);(case side1=>exact cb HR0 HB);(case side2=>exact HC0.out);rintro e w23 ⟨v498,rfl,ho0,hb⟩;refine⟨_,rfl,?_⟩;have HO499:=m0 (Kd.R_lower ho0 (below_size bz));replace HB:=sb HB hb;(try clear hb);(try clear ho0);obtain⟨Ao24,co24,eo24⟩:=Kd.R_slice HO499.out;subst eo24)|((with_reducible refine gc 6 rfl ?_);refine gl (some 48) Tryz.func6 #[.slice Ao24 t497.length co24] ?_;(with_reducible refine(L_FormatProfile.calls kj5 _ _ t497 t500 _ ?side1 ?side2 ?side3 A15.out).mono ?_);(case side1=>exact bc (Kd.R_reads' HO499.out).2.2);(case side2=>exact(Kd.R_reads' HO499.out).2.1);(case side3=>exact EstG.below HG.out bz);rintro e w25 ⟨rfl,hb⟩;refine⟨_,rfl,?_⟩;replace HO499:=rb HO499 hb;replace HB:=sb HB hb;(try clear hb))|((with_reducible refine gc 9 rfl ?_);refine gl (some 50) Tryz.func9 #[.slice A1 l1.length c1] ?_;(with_reducible refine(Rf_CopyLayers.calls _ _ l1 t501 _ ?side1 ?side2 A16.out).mono ?_);(case side1=>exact cb HR1 HB);(case side2=>exact HC1.out);rintro e w26 ⟨v502,rfl,ho0,hb⟩;refine⟨_,rfl,?_⟩;replace HO499:=rb HO499 hb;have HO503:=m0 (Kd.R_lower ho0 (below_size bz));replace HB:=sb HB hb;(try clear hb);(try clear ho0);obtain⟨Ao27,co27,eo27⟩:=Kd.R_slice HO503.out;subst eo27)|((with_reducible refine gc 8 rfl ?_);refine gl (some 51) Tryz.func8 #[.slice Ao27 t501.length co27] ?_;(with_reducible refine(L_FormatLayers.calls kj5 _ _ t501 t504 _ ?side1 ?side2 ?side3 A17.out).mono ?_);(case side1=>exact bc (Kd.R_reads' HO503.out).2.2);(case side2=>exact(Kd.R_reads' HO503.out).2.1);(case side3=>exact EstG.below HG.out bz);rintro e w28 ⟨rfl,hb⟩;refine⟨_,rfl,?_⟩;replace HO499:=rb HO499 hb;replace HO503:=rb HO503 hb;replace HB:=sb HB hb;(try clear hb))|((with_reducible refine gc 10 rfl ?_);refine gl (some 54) Tryz.func10 #[.string a2] ?_;(with_reducible refine(L_ParseProfile.calls kj5 a2 t505 t506 _ ?side1 A18.out).mono ?_);(case side1=>exact EstG.below HG.out bz);rintro e w29 ⟨v507,rfl,ho0,hb⟩;refine⟨_,rfl,?_⟩;replace HO503:=rb HO503 hb;have HO508:=m0 (Kd.R_lower (Kd.R_new' ho0 (Kd.R_lt (br HO499.out))) (below_size bz));replace HO499:=m0 (Kd.R_elder' (br HO499.out) (Kd.R_base ho0) hb);replace HB:=sb HB hb;(try clear hb);(try clear ho0))|((with_reducible refine gc 11 rfl ?_);refine gl (some 59) Tryz.func11 #[.string a2] ?_;(with_reducible refine(L_ParseLayers.calls kj5 a2 t509 t510 _ ?side1 A19.out).mono ?_);(case side1=>exact EstG.below HG.out bz);rintro e w30 ⟨v511,rfl,ho0,hb⟩;refine⟨_,rfl,?_⟩;replace HO499:=rb HO499 hb;replace HO508:=rb HO508 hb;have HO512:=m0 (Kd.R_lower (Kd.R_new' ho0 (Kd.R_lt (br HO503.out))) (below_size bz));replace HO503:=m0 (Kd.R_elder' (br HO503.out) (Kd.R_base ho0) hb);replace HB:=sb HB hb;(try clear hb);(try clear ho0))|((with_reducible refine gc 12 rfl ?_);refine gl (some 64) Tryz.func12 #[.string a2] ?_;(with_reducible refine(Rf_ParseProfile.calls kj5 a2 t513 t514 _ A20.out).mono ?_);rintro e w31 ⟨v515,rfl,ho0,hb⟩;refine⟨_,rfl,?_⟩;replace HO503:=rb HO503 hb;replace HO512:=rb HO512 hb;have HO516:=m0 (Kd.R_lower (Kd.R_new' (Kd.R_new' ho0 (Kd.R_lt (br HO499.out))) (Kd.R_lt (br HO508.out))) (below_size bz));replace HO499:=m0 (Kd.R_elder' (br HO499.out) (Kd.R_base ho0) hb);replace HO508:=m0 (Kd.R_elder' (br HO508.out) (Kd.R_base ho0) hb);replace HB:=sb HB hb;(try clear hb);(try clear ho0))|((with_reducible refine gc 13 rfl ?_);refine gl (some 69) Tryz.func13 #[.string a2] ?_;(with_reducible refine(Rf_ParseLayers.calls kj5 a2 t517 t518 _ A21.out).mono ?_);rintro e w32 ⟨v519,rfl,ho0,hb⟩;refine⟨_,rfl,?_⟩;replace HO499:=rb HO499 hb;replace HO508:=rb HO508 hb;replace HO516:=rb HO516 hb;have HO520:=m0 (Kd.R_lower (Kd.R_new' (Kd.R_new' ho0 (Kd.R_lt (br HO503.out))) (Kd.R_lt (br HO512.out))) (below_size bz));replace HO503:=m0 (Kd.R_elder' (br HO503.out) (Kd.R_base ho0) hb);replace HO512:=m0 (Kd.R_elder' (br HO512.out) (Kd.R_base ho0) hb);replace HB:=sb HB hb;(try clear hb);(try clear ho0)))
          (try simp only[Act.put,List.setIfInBounds_toArray,List.set_cons_zero,List.set_cons_succ])
          go_cut [103] (fun v103 wc=>∃ (kq:Nat) (x103_21:Bool),v103= .bool x103_21∧Aside0 (Lw_CloudStrings.j1 kq l0 l1 t500 t504 x103_21=some r)∧Aside0 (kq≤kj5)∧Aside0 (Below w.heap.size w wc))
          case first =>
            have H:=HC22.out;clear HC22;replace H:=oa H;obtain⟨t521,A33,H⟩:=H;(try dsimp only at H)
            by_cases c34:t500.toList=t521.toList
            · rw [if_pos c34]at H;have c34b0:=beq_iff_eq.mpr c34;have c34b1:=bne_eq_false_iff_eq.mpr c34;clear c34
              (first|rw[c34b0]|(simp only[i64_w,i32_w];rw[c34b0])|skip)
              replace H:=oa H;obtain⟨t522,A35,H⟩:=H;(try dsimp only at H)
              by_cases c36:t504.toList=t522.toList
              · rw [if_pos c36]at H;have c36b0:=beq_iff_eq.mpr c36;have c36b1:=bne_eq_false_iff_eq.mpr c36;clear c36
                by_cases c37:t506=t514
                · rw [if_pos c37]at H;have c37b0:=beq_iff_eq.mpr c37;have c37b1:=bne_eq_false_iff_eq.mpr c37;clear c37;replace H:=oa H;obtain⟨t523,A38,H⟩:=H;(try dsimp only at H)
                  by_cases c39:t523=true
                  · subst c39;rw[if_pos rfl]at H
                    by_cases c40:t510=t518
                    · rw[if_pos c40]at H;have c40b0:=beq_iff_eq.mpr c40;have c40b1:=bne_eq_false_iff_eq.mpr c40;clear c40;replace H:=oa H;obtain⟨t524,A41,H⟩:=H;(try dsimp only at H);have H':=m0 H;clear H
                      go_wp2_with (first|((with_reducible refine gc 14 rfl ?_);refine gl (some 74) Tryz.func14 #[.slice A0 l0.length c0] ?_;(with_reducible refine(Rf_FormatProfile.calls kj5 _ _ l0 t521 _ ?side1 ?side2 A33.out).mono ?_);(case side1=>exact cb HR0 HB);(case side2=>exact HC0.out);rintro e w42 ⟨rfl,hb⟩;refine⟨_,rfl,?_⟩;replace HO499:=rb HO499 hb;replace HO503:=rb HO503 hb;replace HO508:=rb HO508 hb;replace HO512:=rb HO512 hb;replace HO516:=rb HO516 hb;replace HO520:=rb HO520 hb;replace HB:=sb HB hb;(try clear hb))|(go_at_call 15;(with_reducible refine(Rf_FormatLayers.calls kj5 _ _ l1 t522 _ ?side1 ?side2 A35.out).mono ?_);(case side1=>exact cb HR1 HB);(case side2=>exact HC1.out);rintro e w43 ⟨rfl,hb⟩;replace HO499:=rb HO499 hb;replace HO503:=rb HO503 hb;replace HO508:=rb HO508 hb;replace HO512:=rb HO512 hb;replace HO516:=rb HO516 hb;replace HO520:=rb HO520 hb;replace HB:=sb HB hb;(try clear hb);obtain⟨Ao44,co44,eo44⟩:=Kd.R_slice HO508.out;subst eo44;obtain⟨Ao45,co45,eo45⟩:=Kd.R_slice HO516.out;subst eo45)|(go_at_call 16;(with_reducible refine(Bs_Ints.calls kj5 _ _ t505 _ _ t513 true _ ?side1 ?side2 ?side3 ?side4 A38.out).mono ?_);(case side1=>exact bc (Kd.R_reads' HO508.out).2.2);(case side2=>exact(Kd.R_reads' HO508.out).2.1);(case side3=>exact bc (Kd.R_reads' HO516.out).2.2);(case side4=>exact(Kd.R_reads' HO516.out).2.1);rintro e w' ⟨rfl,⟨nd,rfl⟩⟩;obtain⟨Ao46,co46,eo46⟩:=Kd.R_slice HO512.out;subst eo46;obtain⟨Ao47,co47,eo47⟩:=Kd.R_slice HO520.out;subst eo47)|(go_at_call 17;(with_reducible refine(Rf_SameLayers.calls kj5 _ _ t509 _ _ t517 t524 _ ?side1 ?side2 ?side3 ?side4 A41.out).mono ?_);(case side1=>exact bc (Kd.R_reads' HO512.out).2.2);(case side2=>exact(Kd.R_reads' HO512.out).2.1);(case side3=>exact bc (Kd.R_reads' HO520.out).2.2);(case side4=>exact(Kd.R_reads' HO520.out).2.1);rintro e w' ⟨rfl,⟨nd,rfl⟩⟩))
                      go_meet
                      case rel=>exact⟨_,(!t524),rz,H',⟨by have:=HJ5.out;first|omega|exact Nat.le_refl _⟩,⟨bz⟩⟩
                    · rw[if_neg c40]at H;exact absurd H (by simp)
                  · replace c39:=Bool.eq_false_iff.mpr c39;subst c39;rw[if_neg (show ¬ (false=true) by decide)]at H;exact absurd H (by simp)
                · rw[if_neg c37]at H;exact absurd H (by simp)
              · rw[if_neg c36]at H;exact absurd H (by simp)
            · rw[if_neg c34]at H;exact absurd H (by simp)
          case rest =>
            clear HC22;obtain⟨kq,x103_21,rfl,HA,HJ21,HB⟩:=hcut
            cases kq with
            |zero=>exact absurd HA.out (by simp[Lw_CloudStrings.j1])
            | succ kj21 =>
              have H:=HA.out;clear HA;simp only[Lw_CloudStrings.j1]at H
              by_cases c48:x103_21=true
              · subst c48;rw[if_pos rfl]at H;exact absurd H (by simp)
              · replace c48:=Bool.eq_false_iff.mpr c48;subst c48;rw[if_neg (show ¬ (false=true) by decide)]at H;replace H:=oa H;obtain⟨t525,A49,H⟩:=H;(try dsimp only at H);have HC50:=m0 H;clear H
                go_upto_if 106 with (first|((with_reducible refine gc 18 rfl ?_);refine gl (some 105) Tryz.func18 #[.slice A0 l0.length c0] ?_;(with_reducible refine(Rf_ProfileErr.calls kj21 _ _ l0 t525 _ ?side1 ?side2 A49.out).mono ?_);(case side1=>exact cb HR0 HB);(case side2=>exact HC0.out);rintro e w' ⟨rfl,⟨nd,rfl⟩⟩;refine⟨_,rfl,?_⟩))
                (try simp only[Act.put,List.setIfInBounds_toArray,List.set_cons_zero,List.set_cons_succ])
                go_cut [] (fun wc=>∃ (kq:Nat),Aside0 (Lw_CloudStrings.j2 kq l1 t504=some r)∧Aside0 (kq≤kj21)∧Aside0 (Below w.heap.size w wc))
                case first=>
                  have H:=HC50.out;clear HC50
                  by_cases c51:t525=0
                  · rw [if_pos c51]at H;have c51b0:=beq_iff_eq.mpr c51;have c51b1:=bne_eq_false_iff_eq.mpr c51;clear c51
                    (first|rw[c51b0]|(simp only[i64_w,i32_w];rw[c51b0])|skip)
                    replace H:=oa H;obtain⟨⟨t526,t527⟩,A52,H⟩:=H;(try dsimp only at H)
                    by_cases c53:t527=0
                    · rw[if_pos c53]at H;have c53b0:=beq_iff_eq.mpr c53;have c53b1:=bne_eq_false_iff_eq.mpr c53;clear c53;replace H:=oa H;obtain⟨t530,A54,H⟩:=H;(try dsimp only at H)
                      by_cases c55:t530=true
                      · subst c55;rw[if_pos rfl]at H;have H':=m0 H;clear H
                        go_wp2_with (first|((with_reducible refine gc 10 rfl ?_);refine gl (some 109) Tryz.func10 #[.string t500] ?_;(with_reducible refine(L_ParseProfile.calls kj21 t500 t526 t527 _ ?side1 A52.out).mono ?_);(case side1=>exact EstG.below HG.out bz);rintro e w56 ⟨v528,rfl,ho0,hb⟩;refine⟨_,rfl,?_⟩;have HO529:=m0 (Kd.R_lower ho0 (below_size bz));replace HB:=sb HB hb;(try clear hb);(try clear ho0);obtain⟨Ao57,co57,eo57⟩:=Kd.R_slice HO529.out;subst eo57)|(go_at_call 16;(with_reducible refine(Bs_Ints.calls kj21 _ _ t526 _ _ l0 true _ ?side1 ?side2 ?side3 ?side4 A54.out).mono ?_);(case side1=>exact bc (Kd.R_reads' HO529.out).2.2);(case side2=>exact(Kd.R_reads' HO529.out).2.1);(case side3=>exact cb HR0 HB);(case side4=>exact HC0.out);rintro e w' ⟨rfl,⟨nd,rfl⟩⟩))
                        go_meet
                        case rel=>exact⟨_,H',⟨by have:=HJ5.out;have:=HJ21.out;first|omega|exact Nat.le_refl _⟩,⟨bz⟩⟩
                      · replace c55:=Bool.eq_false_iff.mpr c55;subst c55;rw[if_neg (show ¬ (false=true) by decide)]at H;exact absurd H (by simp)
                    · rw[if_neg c53]at H;exact absurd H (by simp)
                  · rw[if_neg c51]at H;have c51b0:=beq_eq_false_iff_ne.mpr c51;have c51b1:=bne_iff_ne.mpr c51
                    (first|rw[c51b0]|(simp only[i64_w,i32_w];rw[c51b0])|skip)
                    have H':=m0 H;clear H
                    go_wp2
                    go_meet
                    case rel=>exact⟨_,H',⟨by have:=HJ5.out;have:=HJ21.out;first|omega|exact Nat.le_refl _⟩,⟨bz⟩⟩
                case rest=>
                  clear HC50;obtain⟨kq,HA,HJ49,HB⟩:=hcut
                  cases kq with
                  |zero=>exact absurd HA.out (by simp[Lw_CloudStrings.j2])
                  | succ kj49=>
                    have H:=HA.out;clear HA;simp only[Lw_CloudStrings.j2]at H;replace H:=oa H;obtain⟨t531,A58,H⟩:=H;(try dsimp only at H)
                    by_cases c59:t531=0
                    · rw[if_pos c59]at H;have c59b0:=beq_iff_eq.mpr c59;have c59b1:=bne_eq_false_iff_eq.mpr c59;clear c59;replace H:=oa H;obtain⟨⟨t532,t533⟩,A60,H⟩:=H;(try dsimp only at H)
                      by_cases c61:t533=0
                      · rw[if_pos c61]at H;have c61b0:=beq_iff_eq.mpr c61;have c61b1:=bne_eq_false_iff_eq.mpr c61;clear c61;replace H:=oa H;obtain⟨t536,A62,H⟩:=H;(try dsimp only at H);obtain rfl:=Option.some.inj H
                        go_wp2_with (first|((with_reducible refine gc 19 rfl ?_);refine gl (some 121) Tryz.func19 #[.slice A1 l1.length c1] ?_;(with_reducible refine(Rf_LayersErr.calls kj49 _ _ l1 t531 _ ?side1 ?side2 A58.out).mono ?_);(case side1=>exact cb HR1 HB);(case side2=>exact HC1.out);rintro e w' ⟨rfl,⟨nd,rfl⟩⟩;refine⟨_,rfl,?_⟩)|((with_reducible refine gc 11 rfl ?_);refine gl (some 125) Tryz.func11 #[.string t504] ?_;(with_reducible refine(L_ParseLayers.calls kj49 t504 t532 t533 _ ?side1 A60.out).mono ?_);(case side1=>exact EstG.below HG.out bz);rintro e w63 ⟨v534,rfl,ho0,hb⟩;refine⟨_,rfl,?_⟩;have HO535:=m0 (Kd.R_lower ho0 (below_size bz));replace HB:=sb HB hb;(try clear hb);(try clear ho0);obtain⟨Ao64,co64,eo64⟩:=Kd.R_slice HO535.out;subst eo64)|(go_at_call 17;(with_reducible refine(Rf_SameLayers.calls kj49 _ _ t532 _ _ l1 t536 _ ?side1 ?side2 ?side3 ?side4 A62.out).mono ?_);(case side1=>exact bc (Kd.R_reads' HO535.out).2.2);(case side2=>exact(Kd.R_reads' HO535.out).2.1);(case side3=>exact cb HR1 HB);(case side4=>exact HC1.out);rintro e w' ⟨rfl,⟨nd,rfl⟩⟩))
                        go_ret
                        exact ez
                      · rw[if_neg c61]at H;exact absurd H (by simp)
                    · rw[if_neg c59]at H;have c59b0:=beq_eq_false_iff_ne.mpr c59;have c59b1:=bne_iff_ne.mpr c59;obtain rfl:=Option.some.inj H
                      go_wp2_with (first|((with_reducible refine gc 19 rfl ?_);refine gl (some 121) Tryz.func19 #[.slice A1 l1.length c1] ?_;(with_reducible refine(Rf_LayersErr.calls kj49 _ _ l1 t531 _ ?side1 ?side2 A58.out).mono ?_);(case side1=>exact cb HR1 HB);(case side2=>exact HC1.out);rintro e w' ⟨rfl,⟨nd,rfl⟩⟩;refine⟨_,rfl,?_⟩))
                      go_ret
                      exact ez
  · replace c5:=Bool.eq_false_iff.mpr c5;subst c5;rw[if_neg (show ¬ (false=true) by decide)]at H;exact absurd H (by simp)
end Go.Proofs.YteiafijbgjgiaaaGreatDoor.A
