/- Walks of the program's functions (printed, made shorter), each with what it computes. -/
import Derived.Test.YteiafijbgjgiaaaGreatDoorS12
namespace Go.Proofs.YteiafijbgjgiaaaGreatDoor.A
set_option maxHeartbeats 8000000
set_option maxRecDepth 100000
open Go.RowKit Go.Proofs.YteiafijbgjgiaaaGreatDoorW.PrintWords Go.Proofs.YteiafijbgjgiaaaGreatDoorW.PrintLast Go.Proofs.YteiafijbgjgiaaaGreatDoorW.PrintMore
attribute [local go_sem] max2_int min2_int max_two min_two max_three min_three max_four min_four
set_option linter.unusedVariables false
set_option linter.unusedSimpArgs false
section
mutual
def api_CloudLayer_CeilingOf_1_190.l0:Nat→List (S64)→Int→Int→Int→Option ((List (S64)))
  |0,_,_,_,_=>none
  |k+1,x0,x1,x2,x8=>if x8<x2 then(api_CloudLayer_CeilingOf_1_190.l1 k x0 x1 x2 x8 x8)else(some x0)
def api_CloudLayer_CeilingOf_1_190.l1:Nat→List (S64)→Int→Int→Int→Int→Option ((List (S64)))
  |0,_,_,_,_,_=>none
  |k+1,x0,x1,x2,x8,x9=>if x9>x1 then(if 0≤x9 then(if x9<(x0.length:Int)then(if 0≤(wrap64 (x9-1))then(if(wrap64 (x9-1))<(x0.length:Int)then((L_CeilingOf_1.f ((rd_T64 x0 x9).f0) ((rd_T64 x0 x9).f1) ((rd_T64 x0 x9).f2) ((rd_T64 x0 (wrap64 (x9-1))).f0) ((rd_T64 x0 (wrap64 (x9-1))).f1) ((rd_T64 x0 (wrap64 (x9-1))).f2)).bind fun t239=>(if t239<0 then(api_CloudLayer_CeilingOf_1_190.l1 k ((x0.set (x9:Int).toNat (⟨(rd_T64 x0 (wrap64 (x9-1))).f0,(rd_T64 x0 (wrap64 (x9-1))).f1,(rd_T64 x0 (wrap64 (x9-1))).f2⟩:S64)).set ((wrap64 (x9-1)):Int).toNat (⟨(rd_T64 x0 x9).f0,(rd_T64 x0 x9).f1,(rd_T64 x0 x9).f2⟩:S64)) x1 x2 x8 (wrap64 (x9-1)))else(api_CloudLayer_CeilingOf_1_190.l0 k x0 x1 x2 (wrap64 (x8+1)))))else(none))else(none))else(none))else(none))else(api_CloudLayer_CeilingOf_1_190.l0 k x0 x1 x2 (wrap64 (x8+1)))
end
def api_CloudLayer_CeilingOf_1_190.f (k:Nat) (l0:List (S64)) (a1:Int) (a2:Int)  :Option ((List (S64))):=api_CloudLayer_CeilingOf_1_190.l0 k l0 a1 a2 (wrap64 (a1+1))
theorem api_CloudLayer_CeilingOf_1_190.mono_l:∀ k,(∀ y0 y1 y2 y3,LeO (api_CloudLayer_CeilingOf_1_190.l0 k y0 y1 y2 y3) (api_CloudLayer_CeilingOf_1_190.l0 (k+1) y0 y1 y2 y3))∧(∀ y0 y1 y2 y3 y4,LeO (api_CloudLayer_CeilingOf_1_190.l1 k y0 y1 y2 y3 y4) (api_CloudLayer_CeilingOf_1_190.l1 (k+1) y0 y1 y2 y3 y4))
  |0=>⟨fun _ _ _ _ r h=>by simp[api_CloudLayer_CeilingOf_1_190.l0]at h,fun _ _ _ _ _ r h=>by simp[api_CloudLayer_CeilingOf_1_190.l1]at h⟩
  | k +1=>by
    obtain⟨ih0,ih1⟩:=api_CloudLayer_CeilingOf_1_190.mono_l k;refine⟨?_,?_⟩
    · intro y0 y1 y2 y3;unfold api_CloudLayer_CeilingOf_1_190.l0
      exact lz
    · intro y0 y1 y2 y3 y4;unfold api_CloudLayer_CeilingOf_1_190.l1
      exact lz
theorem api_CloudLayer_CeilingOf_1_190.mono:∀ a0 a1 a2 k,LeO (api_CloudLayer_CeilingOf_1_190.f k a0 a1 a2) (api_CloudLayer_CeilingOf_1_190.f (k+1) a0 a1 a2):=by
  intro a0 a1 a2 k;obtain⟨ih0,ih1⟩:=api_CloudLayer_CeilingOf_1_190.mono_l k;unfold api_CloudLayer_CeilingOf_1_190.f
  exact lz
def api_CloudLayer_CeilingOf_1_190.T4:Bool×List (List Nat×List Nat):=(true,[([],[]),([],[]),([0,1],[0,1]),([2],[2]),([3],[3]),([3],[3]),([3],[3]),([5,6,3],[3,5,6]),([7,3],[3,7]),([3],[3]),([3],[3]),([10,3],[3,10]),([9,11,3],[3,9,11]),([12,3],[3,12]),([4,8,13,3,3],[3,4,8,13]),([14,3],[3,14]),([3,15],[3,15])])
def api_CloudLayer_CeilingOf_1_190.B4:List Nat:=[0,0,3,7,15,15,15,111,239,15,15,1039,3599,7695,16383,32767,65535]
theorem api_CloudLayer_CeilingOf_1_190.tab4:rtab .any (opsOf Tryz.f114 4)=api_CloudLayer_CeilingOf_1_190.T4:=by kernel_rfl
theorem api_CloudLayer_CeilingOf_1_190.bits4:waitsOk api_CloudLayer_CeilingOf_1_190.T4.2 api_CloudLayer_CeilingOf_1_190.B4=true:=by kernel_rfl
def api_CloudLayer_CeilingOf_1_190.T6:Bool×List (List Nat×List Nat):=(true,[([],[]),([],[]),([],[]),([],[]),([3],[3]),([],[]),([],[]),([6],[6]),([5,7],[5,7]),([8],[8]),([],[]),([],[]),([10,11],[10,11]),([12],[12]),([0,1,0,1,5,6,7,8,9,13],[0,1]),([14,9,0,1,5,6,7,8,9,13],[9,14]),([2,4,0,1,2,3,4,5,6,7,8,9,10,11,12,13,14,15],[2,4]),([16,13,15,0,1,2,3,4,5,6,7,8,9,10,11,12,13,14,15],[13,16])])
def api_CloudLayer_CeilingOf_1_190.B6:List Nat:=[0,0,0,0,8,0,0,64,224,480,0,0,3072,7168,16355,32739,65535,131071]
theorem api_CloudLayer_CeilingOf_1_190.tab6:rtab .any (opsOf Tryz.f114 6)=api_CloudLayer_CeilingOf_1_190.T6:=by kernel_rfl
theorem api_CloudLayer_CeilingOf_1_190.bits6:waitsOk api_CloudLayer_CeilingOf_1_190.T6.2 api_CloudLayer_CeilingOf_1_190.B6=true:=by kernel_rfl
theorem api_CloudLayer_CeilingOf_1_190.m1 {P:Prop} (h:P:=by
 try go_wp2
 go_roundg k2
 case measure=>have:=HK1.out;have:=HK2.out;omega
 case rel=>exact⟨(x0_2),(wrap64 (x8_1+1)),rz,H',⟨by have:=HK1.out;have:=HK2.out;omega⟩,⟨br HO_0.out⟩,⟨by repeat(first|(with_reducible first|exact HK.out|apply Kept.alloc|apply Kept.drewN|apply Kept.drew)|exact HK.out)⟩,⟨bz⟩⟩):P:=h
theorem api_CloudLayer_CeilingOf_1_190.calls (k:Nat) (P0_:Nat→Prop) (u9000_:Value) (l0:List (S64)) (a1:Int) (a2:Int)  (r:List (S64)) (w0 w:World) (hB:Below w0.heap.size w0 w) (ho0:Kd.R k64 64 w w0.heap.size P0_ u9000_ l0) (H:api_CloudLayer_CeilingOf_1_190.f k l0 a1 a2=some r):
    Calls Tryz.prog 114 #[u9000_,.int .i64 a1,.int .i64 a2,.func (.func 49) #[] #[]] w fun e w'=>e= .returned (.tuple #[])∧Kd.R k64 64 w' w0.heap.size (fun k_=>(P0_ k_∨w.heap.size≤k_)) u9000_ r∧Below w0.heap.size w0 w'∧Kept w w' (fun k_=>P0_ k_):=by
  have hu64:=Tryz.underlying64;have HO0:=m0 (show Kd.R k64 64 w w0.heap.size (fun k_=>(P0_ k_∨w.heap.size≤k_)) u9000_ l0 from Kd.R_mono ho0 (fun k_ hk=>(.inl hk)));have HK:=m0 (Kept.refl w (fun k_=>P0_ k_));have HW0:=m0 hB.size;have HB:=m0 hB;clear hB;unfold api_CloudLayer_CeilingOf_1_190.f at H;have H':=m0 H;clear H;go_enter Tryz.func114,Tryz.ntmps114
  go_wp2
  (try simp only[Act.put,List.setIfInBounds_toArray,List.set_cons_zero,List.set_cons_succ])
  go_loopg [8] k (fun kq v8 w'=>∃ (x0_1:List (S64)) (x8_1:Int),v8= .int .i64 x8_1∧Aside0 (api_CloudLayer_CeilingOf_1_190.l0 kq x0_1 a1 a2 x8_1=some r)∧Aside0 (kq≤k)∧Aside0 (Kd.R k64 64 w' w0.heap.size (fun k_=>(P0_ k_∨w.heap.size≤k_)) u9000_ x0_1)∧Aside0 (Kept w w' (fun k_=>P0_ k_))∧Aside0 (Below w0.heap.size w0 w'))
  case atStart=>exact⟨(l0),(wrap64 (a1+1)),rz,H',⟨Nat.le_refl _⟩,⟨br HO0.out⟩,⟨by repeat(first|(with_reducible first|exact HK.out|apply Kept.alloc|apply Kept.drewN|apply Kept.drew)|exact HK.out)⟩,⟨bz⟩⟩
  case round =>
    clear H';obtain⟨x0_1,x8_1,rfl,HA,HK1,HO_0,HK,HB⟩:=hrel
    cases gk with
    |zero=>exact absurd HA.out (by simp[api_CloudLayer_CeilingOf_1_190.l0])
    | succ k1 =>
      have H:=HA.out;clear HA;simp only[api_CloudLayer_CeilingOf_1_190.l0]at H
      by_cases c5:x8_1<a2
      · rw [if_pos c5] at H;have c5b0:=decide_eq_true c5;clear c5;have H':=m0 H;clear H
        go_wp2
        (try simp only[Act.put,List.setIfInBounds_toArray,List.set_cons_zero,List.set_cons_succ])
        go_loopg [9] k1 (fun kq v9 w'=>∃ (x0_2:List (S64)) (x9_2:Int),v9= .int .i64 x9_2∧Aside0 (api_CloudLayer_CeilingOf_1_190.l1 kq x0_2 a1 a2 x8_1 x9_2=some r)∧Aside0 (kq≤k1)∧Aside0 (Kd.R k64 64 w' w0.heap.size (fun k_=>(P0_ k_∨w.heap.size≤k_)) u9000_ x0_2)∧Aside0 (Kept w w' (fun k_=>P0_ k_))∧Aside0 (Below w0.heap.size w0 w'))
        case atStart=>exact⟨(x0_1),(x8_1),rz,H',⟨Nat.le_refl _⟩,⟨br HO_0.out⟩,⟨by repeat(first|(with_reducible first|exact HK.out|apply Kept.alloc|apply Kept.drewN|apply Kept.drew)|exact HK.out)⟩,⟨bz⟩⟩
        case round =>
          clear H';obtain⟨x0_2,x9_2,rfl,HA,HK2,HO_0,HK,HB⟩:=hrel
          cases gk with
          |zero=>exact absurd HA.out (by simp[api_CloudLayer_CeilingOf_1_190.l1])
          | succ k2 =>
            have H:=HA.out;clear HA;simp only[api_CloudLayer_CeilingOf_1_190.l1]at H
            by_cases c6:x9_2>a1
            · rw [if_pos c6]at H;have c6b0:=decide_eq_true c6;clear c6
              by_cases c7:0≤x9_2
              · rw [if_pos c7]at H;have c7b0:=decide_eq_true c7;clear c7
                by_cases c8:x9_2<(x0_2.length:Int)
                · rw [if_pos c8]at H;have c8b0:=decide_eq_true c8;clear c8;obtain⟨ji9,hji9⟩:∃ j_:Int,(wrap64 (x9_2-1))=j_:=⟨_,rfl⟩;replace H:(if 0≤(ji9)then(if(ji9)<(x0_2.length:Int)then((L_CeilingOf_1.f ((rd_T64 x0_2 x9_2).f0) ((rd_T64 x0_2 x9_2).f1) ((rd_T64 x0_2 x9_2).f2) ((rd_T64 x0_2 (ji9)).f0) ((rd_T64 x0_2 (ji9)).f1) ((rd_T64 x0_2 (ji9)).f2)).bind fun t239=>(if t239<0 then(api_CloudLayer_CeilingOf_1_190.l1 k2 ((x0_2.set (x9_2:Int).toNat (⟨(rd_T64 x0_2 (ji9)).f0,(rd_T64 x0_2 (ji9)).f1,(rd_T64 x0_2 (ji9)).f2⟩:S64)).set ((ji9):Int).toNat (⟨(rd_T64 x0_2 x9_2).f0,(rd_T64 x0_2 x9_2).f1,(rd_T64 x0_2 x9_2).f2⟩:S64)) a1 a2 x8_1 ji9)else(api_CloudLayer_CeilingOf_1_190.l0 k2 x0_2 a1 a2 (wrap64 (x8_1+1)))))else(none))else(none))=some r:=by first|(rw[hji9]at H;exact H)|(simp only[hji9]at H ⊢;exact H)
                  have hji9w:(IntKind.i64.wrap (x9_2-1))=ji9:=(i64_w _).trans hji9
                  by_cases c10:0≤(ji9)
                  · rw [if_pos c10]at H;have c10b0:=decide_eq_true c10;clear c10
                    by_cases c11:(ji9)<(x0_2.length:Int)
                    · rw [if_pos c11]at H;have c11b0:=decide_eq_true c11;clear c11;replace H:=oa H;obtain⟨t239,A12,H⟩:=H;(try dsimp only at H)
                      try go_wp2
                      replace HO_0:=m0 (Kd.R_drew HO_0.out);replace HK:=m0 (Kept.drew HK.out);replace HB:=sd HB;obtain⟨Ao17,co17,eo17⟩:=Kd.R_slice HO_0.out;subst eo17;have p237:0≤(x9_2:Int):=od;have q237:x9_2<(x0_2.length:Int):=od;obtain⟨ad237,e237,hx237_0,hx237_1,hx237_2⟩:=at_T64 (Kd.R_reads' HO_0.out).2.2 x9_2 p237 q237
                      cases e237
                      replace p237:=eq_true p237;replace q237:=eq_true q237;have p238:0≤((ji9):Int):=od;have q238:(ji9)<(x0_2.length:Int):=od;obtain⟨ad238,e238,hx238_0,hx238_1,hx238_2⟩:=at_T64 (Kd.R_reads' HO_0.out).2.2 (ji9) p238 q238;obtain rfl:ad237=ad238:=(by injection e238);replace p238:=eq_true p238;replace q238:=eq_true q238;refine start_ (n:=17) (S:=fun w'=>w'.cell? (ad237.add ((x9_2).toNat*3))=some (.int .i64 ((rd_T64 x0_2 x9_2).f0))∧w'.cell? ⟨(ad237.add ((x9_2).toNat*3)).block,(ad237.add ((x9_2).toNat*3)).off+1,none⟩=some (.int .i64 ((rd_T64 x0_2 x9_2).f1))∧w'.cell? ⟨(ad237.add ((x9_2).toNat*3)).block,(ad237.add ((x9_2).toNat*3)).off+2,none⟩=some (.int .i64 ((rd_T64 x0_2 x9_2).f2))∧w'.cell? (ad237.add (((ji9)).toNat*3))=some (.int .i64 ((rd_T64 x0_2 (ji9)).f0))∧w'.cell? ⟨(ad237.add (((ji9)).toNat*3)).block,(ad237.add (((ji9)).toNat*3)).off+1,none⟩=some (.int .i64 ((rd_T64 x0_2 (ji9)).f1))∧w'.cell? ⟨(ad237.add (((ji9)).toNat*3)).block,(ad237.add (((ji9)).toNat*3)).off+2,none⟩=some (.int .i64 ((rd_T64 x0_2 (ji9)).f2))) (ds:=[]) _ (by kernel_rfl) rfl rfl ⟨hx237_0,hx237_1,hx237_2,hx238_0,hx238_1,hx238_2⟩ (fun hH=>?_);refine with_tabW api_CloudLayer_CeilingOf_1_190.tab4 api_CloudLayer_CeilingOf_1_190.bits4 (fun HT_ HW_=>?_);generalize wr.drew=w16 at HO_0 HK HB hx237_0 hx237_1 hx237_2 hx238_0 hx238_1 hx238_2 hH ⊢;refine pZ 0 (some 18) (bs 17 1) HT_ ?_;refine pZ 1 (some 19) (bs 17 3) HT_ ?_;refine pZ 2 (some 20) (bs 17 7) HT_ ?_;refine pZ 3 (some 21) (bs 17 15) HT_ ?_;refine pZ 4 (some 22) (bs 17 31) HT_ ?_;refine pZ 5 (some 23) (bs 17 63) HT_ ?_;refine pZ 6 (some 24) (bs 17 127) HT_ ?_;refine pZ 7 (some 25) (bs 17 255) HT_ ?_;refine pZ 9 (some 27) (bs 17 767) HT_ ?_;refine pZ 10 (some 28) (bs 17 1791) HT_ ?_;refine pZ 11 (some 29) (bs 17 3839) HT_ ?_;refine pZ 12 (some 30) (bs 17 7935) HT_ ?_;refine takeZ 8 (some 26) (bs 17 8191) (tw HT_ HW_) hH ?_;refine takeZ 13 (some 31) (bs 17 16383) (tw HT_ HW_) hH ?_;refine oneZ 14 (some 32) (bs 17 32767) (o1 HT_) fun K hK=>?_;refine goesV_ 22 Tryz.func49 (by kernel_rfl) rfl #[.agg #[.int .i64 ((rd_T64 x0_2 x9_2).f0),.int .i64 ((rd_T64 x0_2 x9_2).f1),.int .i64 ((rd_T64 x0_2 x9_2).f2)],.agg #[.int .i64 ((rd_T64 x0_2 (ji9)).f0),.int .i64 ((rd_T64 x0_2 (ji9)).f1),.int .i64 ((rd_T64 x0_2 (ji9)).f2)]] (by rfl) rfl rfl (by rfl) (by(try simp only[List.map_toArray,List.map_cons,List.map_nil]);first|done|(simp only[hji9];rfl)|rfl|(simp only[List.length_drop,List.length_take];rfl)) ?_
                      with_reducible refine(L_CeilingOf_1.calls ((rd_T64 x0_2 x9_2).f0) ((rd_T64 x0_2 x9_2).f1) ((rd_T64 x0_2 x9_2).f2) ((rd_T64 x0_2 (ji9)).f0) ((rd_T64 x0_2 (ji9)).f1) ((rd_T64 x0_2 (ji9)).f2) t239 _ A12.out).mono ?_
                      rintro e w18 ⟨rfl,hb⟩;have HS0_:=(hb.cell (World.block_lt_of_cell? _ _ (hH.1))).trans (hH.1);have HS1_:=(hb.cell (World.block_lt_of_cell? _ _ (hH.2.1))).trans (hH.2.1);have HS2_:=(hb.cell (World.block_lt_of_cell? _ _ (hH.2.2.1))).trans (hH.2.2.1);have HS3_:=(hb.cell (World.block_lt_of_cell? _ _ (hH.2.2.2.1))).trans (hH.2.2.2.1);have HS4_:=(hb.cell (World.block_lt_of_cell? _ _ (hH.2.2.2.2.1))).trans (hH.2.2.2.2.1);have HS5_:=(hb.cell (World.block_lt_of_cell? _ _ (hH.2.2.2.2.2))).trans (hH.2.2.2.2.2);refine⟨_,rfl,?_⟩;replace HO_0:=rb HO_0 hb;replace HK:=m0 (Kept.below (S:=(fun k_=>P0_ k_)) (by repeat(first|(with_reducible first|exact HK.out|apply Kept.alloc|apply Kept.drewN|apply Kept.drew)|exact HK.out)) hb);replace HB:=sb HB hb
                      (try clear hb);refine hK.out _ _ ⟨HS0_,HS1_,HS2_,HS3_,HS4_,HS5_⟩ (fun hH=>?_);clear hK K;refine nz 32 ?_;refine pZ 15 (some 33) (bs 17 65535) HT_ ?_;refine pZ 16 (some 34) (bs 17 131071) HT_ ?_;refine done_ (done_of HT_.out (by kernel_rfl)) ?_
                      by_cases c13:t239<0
                      · rw[if_pos c13]at H;have c13b0:=decide_eq_true c13;clear c13;obtain⟨y242,hy242⟩:∃ y_:List (S64),y_=(x0_2.set (x9_2:Int).toNat (⟨(rd_T64 x0_2 (ji9)).f0,(rd_T64 x0_2 (ji9)).f1,(rd_T64 x0_2 (ji9)).f2⟩:S64)):=⟨_,rfl⟩;replace H:(api_CloudLayer_CeilingOf_1_190.l1 k2 (y242.set ((ji9):Int).toNat (⟨(rd_T64 x0_2 x9_2).f0,(rd_T64 x0_2 x9_2).f1,(rd_T64 x0_2 x9_2).f2⟩:S64)) a1 a2 x8_1 ji9)=some r:=hq hy242 H
                        have Ny242:=m0 hy242;clear hy242;obtain⟨y243,hy243⟩:∃ y_:List (S64),y_=(y242.set ((ji9):Int).toNat (⟨(rd_T64 x0_2 x9_2).f0,(rd_T64 x0_2 x9_2).f1,(rd_T64 x0_2 x9_2).f2⟩:S64)):=⟨_,rfl⟩;replace H:(api_CloudLayer_CeilingOf_1_190.l1 k2 y243 a1 a2 x8_1 ji9)=some r:=hq hy243 H
                        have Ny243:=m0 hy243;clear hy243;have H':=m0 H;clear H;(try simp only[c13b0])
                        try go_wp2
                        replace HO_0:=m0 (Kd.R_drew HO_0.out);replace HK:=m0 (Kept.drew HK.out);replace HB:=sd HB;have p240:0≤((ji9):Int):=od;have q240:(ji9)<(x0_2.length:Int):=od;obtain⟨ad240,e240,hx240_0,hx240_1,hx240_2⟩:=at_T64 (Kd.R_reads' HO_0.out).2.2 (ji9) p240 q240;obtain rfl:ad237=ad240:=(by injection e240);replace p240:=eq_true p240;replace q240:=eq_true q240;have p241:0≤(x9_2:Int):=od;have q241:x9_2<(x0_2.length:Int):=od;obtain⟨ad241,e241,hx241_0,hx241_1,hx241_2⟩:=at_T64 (Kd.R_reads' HO_0.out).2.2 x9_2 p241 q241;obtain rfl:ad237=ad241:=(by injection e241);replace p241:=eq_true p241;replace q241:=eq_true q241;have p14:0≤(x9_2:Int):=od;have q14:(x9_2:Int)<((x0_2.length:Int):Int):=od;obtain⟨go14,co14,eo14,gb14,gl14,cl14,HG14⟩:=Kd.R_form HO_0.out (by omega)
                        (first|cases eo14|(injection eo14 with ea_ en_ ec_;(first|subst ea_|(injection ea_ with ea_;subst ea_));subst ec_;clear en_))
                        have GB14:=m0 gb14;have GG14:=m0 HG14;clear gb14 gl14 HG14;have HMgo14:=m0 (show(P0_ go14∨w.heap.size≤go14)from(HO_0.out.1 _ rfl))
                        (first|simp only[add_plain]at hx237_0|skip)
                        (first|simp only[add_plain]at hx237_1|skip)
                        (first|simp only[add_plain]at hx237_2|skip)
                        (first|simp only[add_plain]at hx238_0|skip)
                        (first|simp only[add_plain]at hx238_1|skip)
                        (first|simp only[add_plain]at hx238_2|skip)
                        (first|simp only[add_plain]at hx240_0|skip)
                        (first|simp only[add_plain]at hx240_1|skip)
                        (first|simp only[add_plain]at hx240_2|skip)
                        (first|simp only[add_plain]at hx241_0|skip)
                        (first|simp only[add_plain]at hx241_1|skip)
                        (first|simp only[add_plain]at hx241_2|skip)
                        obtain⟨ce14,hcl14,hM14,hcc14,hfr14⟩:=Kd.R_elem HO_0.out z64 (x9_2:Int) p14 q14;obtain rfl:=k64_openM hM14;have hx14_0:World.cell? _ ⟨go14,(x9_2:Int).toNat*3,none⟩=some (.int .i64 ((rd_T64 x0_2 x9_2).f0)):=hcc14 0 _ rfl;have hx14_1:World.cell? _ ⟨go14,(x9_2:Int).toNat*3+1,none⟩=some (.int .i64 ((rd_T64 x0_2 x9_2).f1)):=hcc14 1 _ rfl;have hx14_2:World.cell? _ ⟨go14,(x9_2:Int).toNat*3+2,none⟩=some (.int .i64 ((rd_T64 x0_2 x9_2).f2)):=hcc14 2 _ rfl;have hf14_0:World.frozen? _ ⟨go14,(x9_2:Int).toNat*3,none⟩=false:=hfr14 0;have hf14_1:World.frozen? _ ⟨go14,(x9_2:Int).toNat*3+1,none⟩=false:=hfr14 1;have hf14_2:World.frozen? _ ⟨go14,(x9_2:Int).toNat*3+2,none⟩=false:=hfr14 2;clear hcl14 hcc14 hfr14 hM14;replace p14:=eq_true p14;replace q14:=eq_true q14;obtain⟨ce20,hcl20,hM20,hcc20,hfr20⟩:=Kd.R_elem HO_0.out z64 (x9_2:Int) (od) (by have h_:(x9_2:Int)<((x0_2.length:Int):Int):=od;first|exact h_|(have e_:=(Kd.R_reads' HO_0.out).1;omega)|simpa using h_)
                        obtain rfl:=k64_openM hM20;have HP20:=(Kd.R_seg HO_0.out (x9_2:Int) (od) (by have h_:(x9_2:Int)<((x0_2.length:Int):Int):=od;first|exact h_|(have e_:=(Kd.R_reads' HO_0.out).1;omega)|simpa using h_) (seg:=[.int .i64 ((rd_T64 x0_2 (ji9)).f0),.int .i64 ((rd_T64 x0_2 (ji9)).f1),.int .i64 ((rd_T64 x0_2 (ji9)).f2)]) (j:=0) hcl20 hcc20 (show 3≤3 from by decide) (x':=(⟨(rd_T64 x0_2 (ji9)).f0,(rd_T64 x0_2 (ji9)).f1,(rd_T64 x0_2 (ji9)).f2⟩:S64)) (k64_mkM _ _ _ (⟨(rd_T64 x0_2 (ji9)).f0,(rd_T64 x0_2 (ji9)).f1,(rd_T64 x0_2 (ji9)).f2⟩:S64) ) (fun _ hk=>hk)).1
                        rw[← Ny242.out]at HP20;have HQ20:=m0 HP20;clear hcl20 hcc20 hfr20 hM20 HP20;have p15:0≤((ji9):Int):=od;have q15:((ji9):Int)<((x0_2.length:Int):Int):=od;obtain⟨ce15,hcl15,hM15,hcc15,hfr15⟩:=Kd.R_elem HQ20.out z64 ((ji9):Int) p15 q15;obtain rfl:=k64_openM hM15;have hx15_0:World.cell? _ ⟨go14,((ji9):Int).toNat*3,none⟩=some (.int .i64 ((rd_T64 y242 (ji9)).f0)):=hcc15 0 _ rfl;have hx15_1:World.cell? _ ⟨go14,((ji9):Int).toNat*3+1,none⟩=some (.int .i64 ((rd_T64 y242 (ji9)).f1)):=hcc15 1 _ rfl;have hx15_2:World.cell? _ ⟨go14,((ji9):Int).toNat*3+2,none⟩=some (.int .i64 ((rd_T64 y242 (ji9)).f2)):=hcc15 2 _ rfl;have hf15_0:World.frozen? _ ⟨go14,((ji9):Int).toNat*3,none⟩=false:=hfr15 0;have hf15_1:World.frozen? _ ⟨go14,((ji9):Int).toNat*3+1,none⟩=false:=hfr15 1;have hf15_2:World.frozen? _ ⟨go14,((ji9):Int).toNat*3+2,none⟩=false:=hfr15 2;clear hcl15 hcc15 hfr15 hM15;replace p15:=eq_true p15;replace q15:=eq_true q15;obtain⟨ce21,hcl21,hM21,hcc21,hfr21⟩:=Kd.R_elem HQ20.out z64 ((ji9):Int) (od) (by have h_:((ji9):Int)<((x0_2.length:Int):Int):=od;first|exact h_|(have e_:=(Kd.R_reads' HO_0.out).1;omega)|simpa using h_)
                        obtain rfl:=k64_openM hM21;have HP21:=(Kd.R_seg HQ20.out ((ji9):Int) (od) (by have h_:((ji9):Int)<((x0_2.length:Int):Int):=od;first|exact h_|(have e_:=(Kd.R_reads' HO_0.out).1;omega)|simpa using h_) (seg:=[.int .i64 ((rd_T64 x0_2 x9_2).f0),.int .i64 ((rd_T64 x0_2 x9_2).f1),.int .i64 ((rd_T64 x0_2 x9_2).f2)]) (j:=0) hcl21 hcc21 (show 3≤3 from by decide) (x':=(⟨(rd_T64 x0_2 x9_2).f0,(rd_T64 x0_2 x9_2).f1,(rd_T64 x0_2 x9_2).f2⟩:S64)) (k64_mkM _ _ _ (⟨(rd_T64 x0_2 x9_2).f0,(rd_T64 x0_2 x9_2).f1,(rd_T64 x0_2 x9_2).f2⟩:S64) ) (fun _ hk=>hk)).1
                        rw[← Ny243.out]at HP21;have HQ21:=m0 HP21;clear hcl21 hcc21 hfr21 hM21 HP21;refine start_ (n:=18) (S:=fun w'=>w'.cell? ⟨go14,(((ji9)).toNat*3),none⟩=some (.int .i64 ((rd_T64 x0_2 (ji9)).f0))∧w'.cell? ⟨go14,(((ji9)).toNat*3)+1,none⟩=some (.int .i64 ((rd_T64 x0_2 (ji9)).f1))∧w'.cell? ⟨go14,(((ji9)).toNat*3)+2,none⟩=some (.int .i64 ((rd_T64 x0_2 (ji9)).f2))∧w'.cell? ⟨go14,((x9_2).toNat*3),none⟩=some (.int .i64 ((rd_T64 x0_2 x9_2).f0))∧w'.cell? ⟨go14,((x9_2).toNat*3)+1,none⟩=some (.int .i64 ((rd_T64 x0_2 x9_2).f1))∧w'.cell? ⟨go14,((x9_2).toNat*3)+2,none⟩=some (.int .i64 ((rd_T64 x0_2 x9_2).f2))) (ds:=[15,17]) _ (by kernel_rfl) rfl rfl ⟨hx240_0,hx240_1,hx240_2,hx241_0,hx241_1,hx241_2⟩ (fun hH=>?_);refine with_tabW api_CloudLayer_CeilingOf_1_190.tab6 api_CloudLayer_CeilingOf_1_190.bits6 (fun HT_ HW_=>?_);generalize w18.drew=w19 at HO_0 HK HB GG14 HQ20 HQ21 hf14_0 hf14_1 hf14_2 hf15_0 hf15_1 hf15_2 hx14_0 hx14_1 hx14_2 hx15_0 hx15_1 hx15_2 hx237_0 hx237_1 hx237_2 hx238_0 hx238_1 hx238_2 hx240_0 hx240_1 hx240_2 hx241_0 hx241_1 hx241_2 hH ⊢;refine pZ 0 (some 37) (bs 18 1) HT_ ?_;refine pZ 1 (some 38) (bs 18 3) HT_ ?_;refine pZ 2 (some 39) (bs 18 7) HT_ ?_;refine pZ 3 (some 40) (bs 18 15) HT_ ?_;refine pZ 4 (some 41) (bs 18 31) HT_ ?_;refine pZ 5 (some 42) (bs 18 63) HT_ ?_;refine pZ 6 (some 43) (bs 18 127) HT_ ?_;refine pZ 7 (some 44) (bs 18 255) HT_ ?_;refine pZ 8 (some 45) (bs 18 511) HT_ ?_;refine pZ 10 (some 47) (bs 18 1535) HT_ ?_;refine pZ 11 (some 48) (bs 18 3583) HT_ ?_;refine pZ 12 (some 49) (bs 18 7679) HT_ ?_;refine takeZ 9 (some 46) (bs 18 8191) (tw HT_ HW_) hH ?_;refine takeZ 13 (some 50) (bs 18 16383) (tw HT_ HW_) hH ?_;refine pZ 14 (some 51) (bs 18 32767) HT_ ?_;refine last_ (i:=15) (N:=none) (bs 18 65535) rfl rfl (o1 HT_) (by decide) (fun K hK=>?_);refine skip_ (w1:=?_) (by rfl) rfl ?_ ?_;rotate_left
                        · go_simp
                          rfl
                        refine hK.out _ _ ?_;clear hK K;refine pZ 16 (some 52) (bs 18 131071) HT_ ?_;have hnej_:¬ ((ji9:Int).toNat=(x9_2:Int).toNat):=by have h1:=hji9;unfold wrap64 at h1;have h2:0≤(ji9:Int):=od;have h3:0≤(x9_2:Int):=od;omega
                        have hnek_:¬ ((x9_2:Int).toNat=(ji9:Int).toNat):=fun e_=>hnej_ e_.symm;have hfj0_:w19.frozen? ⟨go14,(ji9:Int).toNat*3,none⟩=false:=by simpa [World.setCells]using hf15_0
                        have hfj1_:w19.frozen? ⟨go14,(ji9:Int).toNat*3+1,none⟩=false:=by simpa [World.setCells]using hf15_1
                        have hfj2_:w19.frozen? ⟨go14,(ji9:Int).toNat*3+2,none⟩=false:=by simpa [World.setCells]using hf15_2
                        refine last_ (i:=17) (N:=none) (bs 18 262143) rfl rfl (o1 HT_) (by decide) (fun K hK=>?_);refine skip_ (w1:=?_) (by rfl) rfl ?_ ?_;rotate_left
                        · go_simp
                          rfl
                        refine hK.out _ _ ?_;clear hK K;refine done_ (done_of HT_.out (by kernel_rfl)) ?_
                        try go_wp2
                        go_roundg k2
                        case measure=>have:=HK1.out;have:=HK2.out;omega
                        case rel=>exact⟨(y243),(ji9),(by first|rfl|(simp;done)|(simp only[← hji9]<;>(first|rfl|simp))|(simp[*];done)),H',⟨by have:=HK1.out;have:=HK2.out;omega⟩,⟨br HQ21.out⟩,⟨by repeat(first|(with_reducible first|exact HK.out|apply Kept.alloc|apply Kept.drewN|apply Kept.drew|refine Kept.setCell ?_ HMgo14.out _|refine Kept.setCell ?_ HMgo14.out _|refine Kept.setCell ?_ HMgo14.out _|refine Kept.setCell ?_ HMgo14.out _|refine Kept.setCell ?_ HMgo14.out _|refine Kept.setCell ?_ HMgo14.out _)|exact HK.out)⟩,⟨bz⟩⟩
                      · rw[if_neg c13]at H;have c13b0:=decide_eq_false c13;clear c13;have H':=m0 H;clear H;(try simp only[c13b0])
                        exact api_CloudLayer_CeilingOf_1_190.m1
                    · rw[if_neg c11]at H;exact absurd H (by simp)
                  · rw[if_neg c10]at H;exact absurd H (by simp)
                · rw[if_neg c8]at H;exact absurd H (by simp)
              · rw[if_neg c7]at H;exact absurd H (by simp)
            · rw[if_neg c6]at H;have c6b0:=decide_eq_false c6;clear c6;have H':=m0 H;clear H
              try go_wp2
              replace HO_0:=m0 (Kd.R_drew HO_0.out);replace HK:=m0 (Kept.drew HK.out);replace HB:=sd HB;refine start_ (n:=17) (S:=fun w'=>True) (ds:=[]) _ (by kernel_rfl) rfl rfl trivial (fun hH=>?_);refine with_tabW api_CloudLayer_CeilingOf_1_190.tab4 api_CloudLayer_CeilingOf_1_190.bits4 (fun HT_ HW_=>?_);generalize wr.drew=w25 at HO_0 HK HB hH ⊢;refine pZ 0 (some 18) (bs 17 1) HT_ ?_;refine pZ 1 (some 19) (bs 17 3) HT_ ?_;refine pZ 2 (some 20) (bs 17 7) HT_ ?_;refine pZ 3 (some 21) (bs 17 15) HT_ ?_;refine pure_ (i:=4) (N:=some 22) (v:=undef) (a':=?_) (bs 17 31) rfl rfl (any_of HT_.out (by kernel_rfl)) (fun _ _ _ h=>h) (Or.inr ⟨by rfl,rfl⟩) ?_ ?_;rotate_left
              · exact pz
              refine pure_ (i:=5) (N:=some 23) (v:=undef) (a':=?_) (bs 17 63) rfl rfl (any_of HT_.out (by kernel_rfl)) (fun _ _ _ h=>h) (Or.inr ⟨by rfl,rfl⟩) ?_ ?_;rotate_left
              · exact pz
              refine pure_ (i:=6) (N:=some 24) (v:=undef) (a':=?_) (bs 17 127) rfl rfl (any_of HT_.out (by kernel_rfl)) (fun _ _ _ h=>h) (Or.inr ⟨by rfl,rfl⟩) ?_ ?_;rotate_left
              · exact pz
              refine pure_ (i:=7) (N:=some 25) (v:=undef) (a':=?_) (bs 17 255) rfl rfl (any_of HT_.out (by kernel_rfl)) (fun _ _ _ h=>h) (Or.inr ⟨by rfl,rfl⟩) ?_ ?_;rotate_left
              · exact pz
              refine pure_ (i:=8) (N:=some 26) (v:=undef) (a':=?_) (bs 17 511) rfl rfl (any_of HT_.out (by kernel_rfl)) (fun _ _ _ h=>h) (Or.inr ⟨by rfl,rfl⟩) ?_ ?_;rotate_left
              · exact pz
              refine pure_ (i:=9) (N:=some 27) (v:=undef) (a':=?_) (bs 17 1023) rfl rfl (any_of HT_.out (by kernel_rfl)) (fun _ _ _ h=>h) (Or.inr ⟨by rfl,rfl⟩) ?_ ?_;rotate_left
              · exact pz
              refine pure_ (i:=10) (N:=some 28) (v:=undef) (a':=?_) (bs 17 2047) rfl rfl (any_of HT_.out (by kernel_rfl)) (fun _ _ _ h=>h) (Or.inr ⟨by rfl,rfl⟩) ?_ ?_;rotate_left
              · exact pz
              refine pure_ (i:=11) (N:=some 29) (v:=undef) (a':=?_) (bs 17 4095) rfl rfl (any_of HT_.out (by kernel_rfl)) (fun _ _ _ h=>h) (Or.inr ⟨by rfl,rfl⟩) ?_ ?_;rotate_left
              · exact pz
              refine pure_ (i:=12) (N:=some 30) (v:=undef) (a':=?_) (bs 17 8191) rfl rfl (any_of HT_.out (by kernel_rfl)) (fun _ _ _ h=>h) (Or.inr ⟨by rfl,rfl⟩) ?_ ?_;rotate_left
              · exact pz
              refine pure_ (i:=13) (N:=some 31) (v:=undef) (a':=?_) (bs 17 16383) rfl rfl (any_of HT_.out (by kernel_rfl)) (fun _ _ _ h=>h) (Or.inr ⟨by rfl,rfl⟩) ?_ ?_;rotate_left
              · exact pz
              refine pure_ (i:=14) (N:=some 32) (v:=undef) (a':=?_) (bs 17 32767) rfl rfl (any_of HT_.out (by kernel_rfl)) (fun _ _ _ h=>h) (Or.inr ⟨by rfl,rfl⟩) ?_ ?_;rotate_left
              · exact pz
              refine pure_ (i:=15) (N:=some 33) (v:=undef) (a':=?_) (bs 17 65535) rfl rfl (any_of HT_.out (by kernel_rfl)) (fun _ _ _ h=>h) (Or.inr ⟨by rfl,rfl⟩) ?_ ?_;rotate_left
              · exact pz
              refine pZ 16 (some 34) (bs 17 131071) HT_ ?_;refine done_ (done_of HT_.out (by kernel_rfl)) ?_
              exact api_CloudLayer_CeilingOf_1_190.m1
      · rw[if_neg c5]at H;have c5b0:=decide_eq_false c5;clear c5;obtain rfl:=Option.some.inj H
        go_wp2
        first|go_end0|((try simp only[Exit.inBlock,Exit.then]);refine bodyPost_ret (results_none rfl _ _ _) rfl ?_)
        exact⟨e4,by(with_reducible repeat(first|apply Kd.R_alloc|apply Kd.R_drewN|apply Kd.R_drew));exact HO_0.out,bz,by repeat(first|(with_reducible first|exact HK.out|apply Kept.alloc|apply Kept.drewN|apply Kept.drew)|exact HK.out)⟩
end
section
mutual
def api_CloudLayer_CeilingOf_1_191.l0:Nat→List (S64)→Int→Int→Int→Int→Option ((List (S64)))
  |0,_,_,_,_,_=>none
  |k+1,x0,x1,x6,x7,x8=>if x8≤x1 then((api_CloudLayer_CeilingOf_1_190.f k x0 x7 x8).bind fun t244=>(api_CloudLayer_CeilingOf_1_191.l0 k t244 x1 x6 x8 (wrap64 (x8+x6))))else((api_CloudLayer_CeilingOf_1_190.f k x0 x7 x1).bind fun t245=>(api_CloudLayer_CeilingOf_1_191.l1 k t245 x1 x6))
def api_CloudLayer_CeilingOf_1_191.l1:Nat→List (S64)→Int→Int→Option ((List (S64)))
  |0,_,_,_=>none
  |k+1,x0,x1,x6=>if x6<x1 then(api_CloudLayer_CeilingOf_1_191.l2 k x0 x1 x6 0 (wrap64 (2*x6)))else(some x0)
def api_CloudLayer_CeilingOf_1_191.l2:Nat→List (S64)→Int→Int→Int→Int→Option ((List (S64)))
  |0,_,_,_,_,_=>none
  |k+1,x0,x1,x6,x7,x8=>if x8≤x1 then(none)else(if(wrap64 (x7+x6))<x1 then(none)else(api_CloudLayer_CeilingOf_1_191.l1 k x0 x1 (wrap64 (x6*2))))
end
def api_CloudLayer_CeilingOf_1_191.f (k:Nat) (l0:List (S64)) (a1:Int)  :Option ((List (S64))):=api_CloudLayer_CeilingOf_1_191.l0 k l0 a1 20 0 20
theorem api_CloudLayer_CeilingOf_1_191.mono_l:∀ k,(∀ y0 y1 y2 y3 y4,LeO (api_CloudLayer_CeilingOf_1_191.l0 k y0 y1 y2 y3 y4) (api_CloudLayer_CeilingOf_1_191.l0 (k+1) y0 y1 y2 y3 y4))∧(∀ y0 y1 y2,LeO (api_CloudLayer_CeilingOf_1_191.l1 k y0 y1 y2) (api_CloudLayer_CeilingOf_1_191.l1 (k+1) y0 y1 y2))∧(∀ y0 y1 y2 y3 y4,LeO (api_CloudLayer_CeilingOf_1_191.l2 k y0 y1 y2 y3 y4) (api_CloudLayer_CeilingOf_1_191.l2 (k+1) y0 y1 y2 y3 y4))
  |0=>⟨fun _ _ _ _ _ r h=>by simp[api_CloudLayer_CeilingOf_1_191.l0]at h,fun _ _ _ r h=>by simp[api_CloudLayer_CeilingOf_1_191.l1]at h,fun _ _ _ _ _ r h=>by simp[api_CloudLayer_CeilingOf_1_191.l2]at h⟩
  | k +1=>by
    obtain⟨ih0,ih1,ih2⟩:=api_CloudLayer_CeilingOf_1_191.mono_l k;refine⟨?_,?_,?_⟩
    · intro y0 y1 y2 y3 y4;unfold api_CloudLayer_CeilingOf_1_191.l0
      have m1:=@api_CloudLayer_CeilingOf_1_190.mono;exact lz
    · intro y0 y1 y2;unfold api_CloudLayer_CeilingOf_1_191.l1
      have m1:=@api_CloudLayer_CeilingOf_1_190.mono;exact lz
    · intro y0 y1 y2 y3 y4;unfold api_CloudLayer_CeilingOf_1_191.l2
      have m1:=@api_CloudLayer_CeilingOf_1_190.mono;exact lz
theorem api_CloudLayer_CeilingOf_1_191.mono:∀ a0 a1 k,LeO (api_CloudLayer_CeilingOf_1_191.f k a0 a1) (api_CloudLayer_CeilingOf_1_191.f (k+1) a0 a1):=by
  intro a0 a1 k;obtain⟨ih0,ih1,ih2⟩:=api_CloudLayer_CeilingOf_1_191.mono_l k;unfold api_CloudLayer_CeilingOf_1_191.f
  have m1:=@api_CloudLayer_CeilingOf_1_190.mono;exact lz
theorem api_CloudLayer_CeilingOf_1_191.calls (k:Nat) (P0_:Nat→Prop) (u9000_:Value) (l0:List (S64)) (a1:Int)  (r:List (S64)) (w0 w:World) (hB:Below w0.heap.size w0 w) (ho0:Kd.R k64 64 w w0.heap.size P0_ u9000_ l0) (H:api_CloudLayer_CeilingOf_1_191.f k l0 a1=some r):
    Calls Tryz.prog 99 #[u9000_,.int .i64 a1,.func (.func 49) #[] #[]] w fun e w'=>e= .returned (.tuple #[])∧Kd.R k64 64 w' w0.heap.size (fun k_=>(P0_ k_∨w.heap.size≤k_)) u9000_ r∧Below w0.heap.size w0 w'∧Kept w w' (fun k_=>P0_ k_):=by
  have HO0:=m0 (show Kd.R k64 64 w w0.heap.size (fun k_=>(P0_ k_∨w.heap.size≤k_)) u9000_ l0 from Kd.R_mono ho0 (fun k_ hk=>(.inl hk)));have HK:=m0 (Kept.refl w (fun k_=>P0_ k_));have HW0:=m0 hB.size;have HB:=m0 hB;clear hB;unfold api_CloudLayer_CeilingOf_1_191.f at H;have H':=m0 H;clear H;go_enter Tryz.func99,Tryz.ntmps99
  go_wp2
  (try simp only[Act.put,List.setIfInBounds_toArray,List.set_cons_zero,List.set_cons_succ])
  go_loopg [7,8] k (fun kq v7 v8 w'=>∃ (x0_1:List (S64)) (x7_1:Int) (x8_1:Int),v7= .int .i64 x7_1∧v8= .int .i64 x8_1∧Aside0 (api_CloudLayer_CeilingOf_1_191.l0 kq x0_1 a1 20 x7_1 x8_1=some r)∧Aside0 (kq≤k)∧Aside0 (Kd.R k64 64 w' w0.heap.size (fun k_=>(P0_ k_∨w.heap.size≤k_)) u9000_ x0_1)∧Aside0 (Kept w w' (fun k_=>P0_ k_))∧Aside0 (Below w0.heap.size w0 w'))
  case atStart=>exact⟨(l0),(0),(20),rz,rz,H',⟨Nat.le_refl _⟩,⟨br HO0.out⟩,⟨by repeat(first|(with_reducible first|exact HK.out|apply Kept.alloc|apply Kept.drewN|apply Kept.drew)|exact HK.out)⟩,⟨bz⟩⟩
  case round =>
    clear H';obtain⟨x0_1,x7_1,x8_1,rfl,rfl,HA,HK1,HO_0,HK,HB⟩:=hrel
    cases gk with
    |zero=>exact absurd HA.out (by simp[api_CloudLayer_CeilingOf_1_191.l0])
    | succ k1 =>
      have H:=HA.out;clear HA;simp only[api_CloudLayer_CeilingOf_1_191.l0]at H
      by_cases c4:x8_1≤a1
      · rw[if_pos c4]at H;have c4b0:=decide_eq_true c4;clear c4;replace H:=oa H;obtain⟨t244,A5,H⟩:=H;(try dsimp only at H);have H':=m0 H;clear H;obtain⟨Ao6,co6,eo6⟩:=Kd.R_slice HO_0.out;subst eo6
        go_wp2_with (first|((with_reducible refine gc 114 rfl ?_);refine gl (some 18) Tryz.func114 #[.slice Ao6 x0_1.length co6,.int .i64 x7_1,.int .i64 x8_1,.func (.func 49) #[] #[]] ?_;(with_reducible refine(api_CloudLayer_CeilingOf_1_190.calls k1 (fun k_=>some k_=(.slice Ao6 x0_1.length co6:Value).ownBlock) (.slice Ao6 x0_1.length co6) x0_1 x7_1 x8_1  t244 w0 _ ?side1 ?side2 A5.out).mono ?_);(case side1=>exact bz);(case side2=>exact Kd.R_tight rfl HO_0.out);rintro e w7 ⟨rfl,hy0,hb,hkp⟩;refine⟨_,rfl,?_⟩;replace HK:=m0 (Kept.then_ (S:=(fun k_=>P0_ k_)) (by repeat(first|(with_reducible first|exact HK.out|apply Kept.alloc|apply Kept.drewN|apply Kept.drew)|exact HK.out)) hkp (fun k_ hs_=>(fun e_=>(HO_0.out.1 k_ e_.symm)) hs_));replace HO_0:=m0 (Kd.R_reok rfl hy0 (fun k_ e_=>HO_0.out.1 k_ e_));replace HB:=m0 (hb);(try clear hb);(try clear hkp);(try clear hy0)))
        go_roundg k1
        case measure=>have:=HK1.out;omega
        case rel=>exact⟨(t244),(x8_1),(wrap64 (x8_1+20)),rz,rz,H',⟨by have:=HK1.out;omega⟩,⟨br HO_0.out⟩,⟨by repeat(first|(with_reducible first|exact HK.out|apply Kept.alloc|apply Kept.drewN|apply Kept.drew)|exact HK.out)⟩,⟨bz⟩⟩
      · rw [if_neg c4]at H;have c4b0:=decide_eq_false c4;clear c4;replace H:=oa H;obtain⟨t245,A8,H⟩:=H;(try dsimp only at H);have H':=m0 H;clear H;obtain⟨Ao9,co9,eo9⟩:=Kd.R_slice HO_0.out;subst eo9
        go_wp2_with (first|((with_reducible refine gc 114 rfl ?_);refine gl (some 27) Tryz.func114 #[.slice Ao9 x0_1.length co9,.int .i64 x7_1,.int .i64 a1,.func (.func 49) #[] #[]] ?_;(with_reducible refine(api_CloudLayer_CeilingOf_1_190.calls k1 (fun k_=>some k_=(.slice Ao9 x0_1.length co9:Value).ownBlock) (.slice Ao9 x0_1.length co9) x0_1 x7_1 a1  t245 w0 _ ?side1 ?side2 A8.out).mono ?_);(case side1=>exact bz);(case side2=>exact Kd.R_tight rfl HO_0.out);rintro e w10 ⟨rfl,hy0,hb,hkp⟩;refine⟨_,rfl,?_⟩;replace HK:=m0 (Kept.then_ (S:=(fun k_=>P0_ k_)) (by repeat(first|(with_reducible first|exact HK.out|apply Kept.alloc|apply Kept.drewN|apply Kept.drew)|exact HK.out)) hkp (fun k_ hs_=>(fun e_=>(HO_0.out.1 k_ e_.symm)) hs_));replace HO_0:=m0 (Kd.R_reok rfl hy0 (fun k_ e_=>HO_0.out.1 k_ e_));replace HB:=m0 (hb);(try clear hb);(try clear hkp);(try clear hy0)))
        (try simp only[Act.put,List.setIfInBounds_toArray,List.set_cons_zero,List.set_cons_succ])
        go_loopg [6] k1 (fun kq v6 w'=>∃ (x6_2:Int),v6= .int .i64 x6_2∧Aside0 (api_CloudLayer_CeilingOf_1_191.l1 kq t245 a1 x6_2=some r)∧Aside0 (kq≤k1)∧Aside0 (Kd.R k64 64 w' w0.heap.size (fun k_=>(P0_ k_∨w.heap.size≤k_)) (.slice Ao9 x0_1.length co9) t245)∧Aside0 (Kept w w' (fun k_=>P0_ k_))∧Aside0 (Below w0.heap.size w0 w'))
        case atStart=>exact⟨(20),rz,H',⟨Nat.le_refl _⟩,⟨br HO_0.out⟩,⟨by repeat(first|(with_reducible first|exact HK.out|apply Kept.alloc|apply Kept.drewN|apply Kept.drew)|exact HK.out)⟩,⟨bz⟩⟩
        case round =>
          clear H';obtain⟨x6_2,rfl,HA,HK2,HO_0,HK,HB⟩:=hrel;have hl0_2:=(Kd.R_reads' HO_0.out).1;rw[hl0_2]at HO_0;(try simp only[hl0_2])
          cases gk with
          |zero=>exact absurd HA.out (by simp[api_CloudLayer_CeilingOf_1_191.l1])
          | succ k2 =>
            have H:=HA.out;clear HA;simp only[api_CloudLayer_CeilingOf_1_191.l1]at H
            by_cases c11:x6_2<a1
            · rw [if_pos c11]at H;have c11b0:=decide_eq_true c11;clear c11;have H':=m0 H;clear H
              go_wp2
              (try simp only[Act.put,List.setIfInBounds_toArray,List.set_cons_zero,List.set_cons_succ])
              go_loopg [7,8] k2 (fun kq v7 v8 w'=>∃ (x7_3:Int) (x8_3:Int),v7= .int .i64 x7_3∧v8= .int .i64 x8_3∧Aside0 (api_CloudLayer_CeilingOf_1_191.l2 kq t245 a1 x6_2 x7_3 x8_3=some r)∧Aside0 (kq≤k2)∧Aside0 (Kd.R k64 64 w' w0.heap.size (fun k_=>(P0_ k_∨w.heap.size≤k_)) (.slice Ao9 t245.length co9) t245)∧Aside0 (Kept w w' (fun k_=>P0_ k_))∧Aside0 (Below w0.heap.size w0 w'))
              case atStart=>exact⟨(0),(wrap64 (2*x6_2)),rz,rz,H',⟨Nat.le_refl _⟩,⟨by (try simp only[hl0_2]);(with_reducible repeat(first|apply Kd.R_alloc|apply Kd.R_drewN|apply Kd.R_drew));exact HO_0.out⟩,⟨by repeat(first|(with_reducible first|exact HK.out|apply Kept.alloc|apply Kept.drewN|apply Kept.drew)|exact HK.out)⟩,⟨bz⟩⟩
              case round=>
                clear H';obtain⟨x7_3,x8_3,rfl,rfl,HA,HK3,HO_0,HK,HB⟩:=hrel
                cases gk with
                |zero=>exact absurd HA.out (by simp[api_CloudLayer_CeilingOf_1_191.l2])
                | succ k3=>
                  have H:=HA.out;clear HA;simp only[api_CloudLayer_CeilingOf_1_191.l2]at H
                  by_cases c12:x8_3≤a1
                  · rw[if_pos c12]at H;exact absurd H (by simp)
                  · rw[if_neg c12]at H;have c12b0:=decide_eq_false c12;clear c12
                    by_cases c13:(wrap64 (x7_3+x6_2))<a1
                    · rw[if_pos c13]at H;exact absurd H (by simp)
                    · rw[if_neg c13]at H;have c13b0:=decide_eq_false c13;clear c13;have H':=m0 H;clear H
                      go_wp2
                      (try simp only[← hl0_2])
                      go_roundg k3
                      case measure=>have:=HK1.out;have:=HK2.out;have:=HK3.out;omega
                      case rel=>exact⟨(wrap64 (x6_2*2)),rz,H',⟨by have:=HK1.out;have:=HK2.out;have:=HK3.out;omega⟩,⟨by (try simp only[hl0_2]);(with_reducible repeat(first|apply Kd.R_alloc|apply Kd.R_drewN|apply Kd.R_drew));exact HO_0.out⟩,⟨by repeat(first|(with_reducible first|exact HK.out|apply Kept.alloc|apply Kept.drewN|apply Kept.drew)|exact HK.out)⟩,⟨bz⟩⟩
            · rw[if_neg c11]at H;have c11b0:=decide_eq_false c11;clear c11;obtain rfl:=Option.some.inj H
              go_wp2
              first|go_end0|((try simp only[Exit.inBlock,Exit.then]);refine bodyPost_ret (results_none rfl _ _ _) rfl ?_)
              exact⟨e4,(by first|exact(br HO_0.out)|(simp only[hl0_2];exact(br HO_0.out))),bz,by repeat(first|(with_reducible first|exact HK.out|apply Kept.alloc|apply Kept.drewN|apply Kept.drew)|exact HK.out)⟩
end
section
def api_CloudLayer_CeilingOf_1_192.f (k:Nat) (l0:List (S64))  :Option ((List (S64))):=(api_CloudLayer_CeilingOf_1_191.f k l0 (l0.length:Int)).bind fun t246=>(some t246)
theorem api_CloudLayer_CeilingOf_1_192.mono:∀ a0 k,LeO (api_CloudLayer_CeilingOf_1_192.f k a0) (api_CloudLayer_CeilingOf_1_192.f (k+1) a0):=by
 intro a0 k;unfold api_CloudLayer_CeilingOf_1_192.f
 have m1:=@api_CloudLayer_CeilingOf_1_191.mono;exact lz
theorem api_CloudLayer_CeilingOf_1_192.calls (k:Nat) (P0_:Nat→Prop) (u9000_:Value) (l0:List (S64))  (r:List (S64)) (w0 w:World) (hB:Below w0.heap.size w0 w) (ho0:Kd.R k64 64 w w0.heap.size P0_ u9000_ l0) (H:api_CloudLayer_CeilingOf_1_192.f k l0=some r):
  Calls Tryz.prog 75 #[u9000_,.func (.func 49) #[] #[]] w fun e w'=>e= .returned (.tuple #[])∧Kd.R k64 64 w' w0.heap.size (fun k_=>(P0_ k_∨w.heap.size≤k_)) u9000_ r∧Below w0.heap.size w0 w'∧Kept w w' (fun k_=>P0_ k_):=by
 have HO0:=m0 (show Kd.R k64 64 w w0.heap.size (fun k_=>(P0_ k_∨w.heap.size≤k_)) u9000_ l0 from Kd.R_mono ho0 (fun k_ hk=>(.inl hk)));have HK:=m0 (Kept.refl w (fun k_=>P0_ k_));have HW0:=m0 hB.size;have HB:=m0 hB;clear hB;unfold api_CloudLayer_CeilingOf_1_192.f at H;replace H:=oa H;obtain⟨t246,A3,H⟩:=H;(try dsimp only at H);obtain rfl:=Option.some.inj H;obtain⟨Ao4,co4,eo4⟩:=Kd.R_slice HO0.out;subst eo4;go_enter Tryz.func75,Tryz.ntmps75
 go_wp2_with (first|((with_reducible refine gc 99 rfl ?_);refine gl (some 8) Tryz.func99 #[.slice Ao4 l0.length co4,.int .i64 (l0.length:Int),.func (.func 49) #[] #[]] ?_;(with_reducible refine(api_CloudLayer_CeilingOf_1_191.calls k (fun k_=>some k_=(.slice Ao4 l0.length co4:Value).ownBlock) (.slice Ao4 l0.length co4) l0 (l0.length:Int)  t246 w0 _ ?side1 ?side2 A3.out).mono ?_);(case side1=>exact bz);(case side2=>exact Kd.R_tight rfl HO0.out);rintro e w5 ⟨rfl,hy0,hb,hkp⟩;refine⟨_,rfl,?_⟩;replace HK:=m0 (Kept.then_ (S:=(fun k_=>P0_ k_)) (by repeat(first|(with_reducible first|exact HK.out|apply Kept.alloc|apply Kept.drewN|apply Kept.drew)|exact HK.out)) hkp (fun k_ hs_=>(fun e_=>(HO0.out.1 k_ e_.symm)) hs_));replace HO0:=m0 (Kd.R_reok rfl hy0 (fun k_ e_=>HO0.out.1 k_ e_));replace HB:=m0 (hb);(try clear hb);(try clear hkp);(try clear hy0)))
 first|go_end0|((try simp only[Exit.inBlock,Exit.then]);refine bodyPost_ret (results_none rfl _ _ _) rfl ?_)
 exact⟨e4,by(with_reducible repeat(first|apply Kd.R_alloc|apply Kd.R_drewN|apply Kd.R_drew));exact HO0.out,bz,by repeat(first|(with_reducible first|exact HK.out|apply Kept.alloc|apply Kept.drewN|apply Kept.drew)|exact HK.out)⟩
end
section
/-- The layers by their bases, in the order of insertion sort. -/
def L_sorted_layers.f (k:Nat) (l:List S64):Option (List S64):=if l.length<5864062014805 then api_CloudLayer_CeilingOf_1_192.f k l else none
theorem L_sorted_layers.mono:∀ a0 k,LeO (L_sorted_layers.f k a0) (L_sorted_layers.f (k+1) a0):=by
 intro a0 k;unfold L_sorted_layers.f;exact LeO.ite (api_CloudLayer_CeilingOf_1_192.mono _ _) (LeO.none _)
theorem L_sorted_layers.calls (k:Nat) (B:Nat) (A:Option Addr) (c:Nat) (l:List S64) (r:List S64) (w:World) (hbx:w.heap[B]?=some (.cells #[.slice A l.length c] 23 (0,0))) (hr:Kd.C k64 w A l.length l) (hc:l.length≤c) (h:L_sorted_layers.f k l=some r):
  Calls Tryz.prog 47 #[.func (.func 76) #[] #[.pointer (some ⟨B,0,none⟩)],.func (.func 49) #[] #[]] w fun e w'=>∃ v0_:Value,e= .returned v0_∧Kd.R k64 64 w' w.heap.size (fun _=>True) v0_ r∧Below w.heap.size w w':=by
 unfold L_sorted_layers.f at h
 by_cases hl:l.length<5864062014805
 case neg=>rw[if_neg hl]at h;exact absurd h (by simp)
 rw[if_pos hl]at h;have HC:=m0 (api_CloudLayer_74.calls_own _ _ (enters_of Tryz.func76 (by kernel_rfl) rfl) l w.heap.size w (Nat.le_refl _) (by omega) (api_CloudLayer_48.stops 8 (by decide) A c l B w hbx hr));have HS:=m0 h;clear h hl hbx hr hc;go_enter Tryz.func47,Tryz.ntmps47
 go_wp2_with (first|(go_at_call 74;refine HC.out.mono ?_;rintro e w1 ⟨v,rfl,ho,hb⟩;have HO:=m0 ho;have HB:=m0 hb;clear ho hb)|(go_at_call 75;refine(api_CloudLayer_CeilingOf_1_192.calls k (fun _=>True) v l r w _ HB.out HO.out HS.out).mono ?_;rintro e w2 ⟨rfl,ho,hb,hk⟩;have HO2:=m0 ho;have HB2:=m0 hb;clear ho hb hk))
 go_ret
 exact⟨v,rfl,Kd.R_mono HO2.out (fun _ _=>trivial),HB2.out⟩
end
section
def L_CeilingOf.l0:Nat→Int→Int→List (S64)→Int→Int→Option (Int×Int)
 |0,_,_,_,_,_=>none
 |k+1,x1,x8,x27,x28,x29=>if x29<x28 then(if 0≤x29 then(if x29<(x27.length:Int)then(if(wrap64 (x8+((rd_T64 x27 x29).f2)))≥x1 then(some ((rd_T64 x27 x29).f0,0))else(L_CeilingOf.l0 k x1 (wrap64 (x8+((rd_T64 x27 x29).f2))) x27 x28 (wrap64 (x29+1))))else(none))else(none))else(some (0,12))
def L_CeilingOf.f (k:Nat) (l0:List (S64)) (a1:Int):Option (Int×Int):=(L_CheckLayers.f k l0).bind fun bt247=>((L_within.f a1 1 8).bind fun t249=>((L_unless.f t249 2).bind fun t250=>((L_first.f k (([bt247.2,t250]:List Int))).bind fun t254=>(if t254=0 then((L_sorted_layers.f k l0).bind fun t256=>(L_CeilingOf.l0 k a1 0 t256 (t256.length:Int) 0))else(some (0,t254))))))
theorem L_CeilingOf.mono_l:∀ k,(∀ y0 y1 y2 y3 y4,LeO (L_CeilingOf.l0 k y0 y1 y2 y3 y4) (L_CeilingOf.l0 (k+1) y0 y1 y2 y3 y4))
 |0=>fun _ _ _ _ _ r h=>by simp[L_CeilingOf.l0]at h
 | k+1=>by
  have ih0:=L_CeilingOf.mono_l k
  ·intro y0 y1 y2 y3 y4;unfold L_CeilingOf.l0
   have m1:=@L_CheckLayers.mono;have m2:=@L_first.mono;have m3:=@L_sorted_layers.mono;exact lz
theorem L_CeilingOf.mono:∀ a0 a1 k,LeO (L_CeilingOf.f k a0 a1) (L_CeilingOf.f (k+1) a0 a1):=by
 intro a0 a1 k;have ih0:=L_CeilingOf.mono_l k;unfold L_CeilingOf.f
 have m1:=@L_CheckLayers.mono;have m2:=@L_first.mono;have m3:=@L_sorted_layers.mono;exact lz
theorem L_CeilingOf.calls (k:Nat) (A0:Option Addr) (c0:Nat) (l0:List (S64)) (a1:Int) (r1:Int) (r2:Int) (w:World) (hr0:Kd.C k64 w A0 l0.length l0) (hc0:l0.length≤c0) (H:L_CeilingOf.f k l0 a1=some (r1,r2)):
  Calls Tryz.prog 22 #[.slice A0 l0.length c0,.int .i64 a1] w fun e w'=>e= .returned (.tuple #[.int .i64 r1,.int .i64 r2])∧Below w.heap.size w w':=by
 have hu64:=Tryz.underlying64;have HR0:=m0 hr0;have HC0:=m0 hc0;clear hr0 hc0;have HB:=m0 (Below.refl w.heap.size w);unfold L_CeilingOf.f at H;replace H:=oa H;obtain⟨⟨t247,t248⟩,A3,H⟩:=H;(try dsimp only at H);replace H:=oa H;obtain⟨t249,A4,H⟩:=H;(try dsimp only at H);replace H:=oa H;obtain⟨t250,A5,H⟩:=H;(try dsimp only at H);obtain⟨y251,hy251⟩:∃ y_:List Int,y_=(([t248,t250]:List Int)):=⟨_,rfl⟩;replace H:((L_first.f k y251).bind fun t254=>(if t254=0 then((L_sorted_layers.f k l0).bind fun t256=>(L_CeilingOf.l0 k a1 0 t256 (t256.length:Int) 0))else(some (0,t254))))=some (r1,r2):=hq hy251 H
 have Ny251:=m0 hy251;clear hy251;replace H:=oa H;obtain⟨t254,A6,H⟩:=H;(try dsimp only at H)
 by_cases c7:t254=0
 ·rw [if_pos c7]at H;have c7b0:=beq_iff_eq.mpr c7;have c7b1:=bne_eq_false_iff_eq.mpr c7;clear c7;replace H:=oa H;obtain⟨t256,A8,H⟩:=H;(try dsimp only at H);have H':=m0 H;clear H;go_enter Tryz.func22,Tryz.ntmps22
  go_wp2_with (first|((with_reducible refine gc 33 rfl ?_);refine gl (some 13) Tryz.func33 #[.slice A0 l0.length c0] ?_;(with_reducible refine(L_CheckLayers.calls k _ _ l0 t247 t248 _ ?side1 ?side2 A3.out).mono ?_);(case side1=>exact cd HR0.out);(case side2=>exact HC0.out);rintro e w9 ⟨rfl,hb⟩;refine⟨_,rfl,?_⟩;replace HB:=sb HB hb;(try clear hb))|((with_reducible refine gc 46 rfl ?_);refine gl (some 18) Tryz.func46 #[.int .i64 a1,.int .i64 1,.int .i64 8] ?_;(with_reducible refine(L_within.calls a1 1 8 t249 _ A4.out).mono ?_);rintro e w' ⟨rfl,⟨nd,rfl⟩⟩;refine⟨_,rfl,?_⟩)|((with_reducible refine gc 45 rfl ?_);refine gl (some 19) Tryz.func45 #[.bool t249,.int .i64 2] ?_;(with_reducible refine(L_unless.calls t249 2 t250 _ A5.out).mono ?_);rintro e w' ⟨rfl,⟨nd,rfl⟩⟩;refine⟨_,rfl,?_⟩)|((with_reducible refine ga 20 rfl ?_);refine Kd.R_lit (Kd.int .i64) _ 30 ?hg (N:=20) ?hd (xs:=([t248,t250]:List Int)) (inner:=[.int .i64 t248,.int .i64 t250]) (ok:=fun _=>True) (okp:=fun _=>True) ?hr ?hp (fun _ hk=>hk) trivial (Below.refl _ _) (Nat.le_refl _) (by simp) ?_;(case hd=>rfl);(case hg=>rfl);(case hr=>first|(go_simp;done)|(go_simp;rfl));(case hp=>exact(Reps.one (ki t248) (Reps.one (ki t250) (Reps.none _ _))));intro v252 w10 ho11 hb hg_ hnew_;clear hg_ hnew_;(first|rw[← Ny251.out]at ho11|(simp only[Int.reduceToNat]at ho11;rw[← Ny251.out]at ho11));have HO253:=m0 (Kd.R_lower ho11 (below_size bz));replace HB:=sb HB hb;clear hb ho11;obtain⟨Ao12,co12,eo12⟩:=Kd.R_slice HO253.out;subst eo12)|((with_reducible refine gc 40 rfl ?_);refine gl (some 21) Tryz.func40 #[.slice Ao12 y251.length co12] ?_;(with_reducible refine(L_first.calls k _ _ y251 t254 _ ?side1 ?side2 A6.out).mono ?_);(case side1=>exact bc (Kd.R_reads' HO253.out).2.2);(case side2=>exact(Kd.R_reads' HO253.out).2.1);rintro e w' ⟨rfl,⟨nd,rfl⟩⟩;refine⟨_,rfl,?_⟩)|((with_reducible refine gc 48 rfl ?_);refine goesL_ (some 26) rfl rfl Tryz.func48 (by kernel_rfl) rfl #[.slice A0 l0.length c0] rfl (by(try simp only[List.map_toArray,List.map_cons,List.map_nil]);first|done|rfl) ?_;refine(api_CloudLayer_48.calls_own _ _ _ _).mono ?_;rintro e w13 ⟨gb255,hg,rfl,hbox,hb⟩;refine⟨_,rfl,?_⟩;replace HO253:=rb HO253 hb;have BK255:=m0 hbox;have GE255:=gw w hg;replace HB:=sb HB hb;clear hb hbox hg)|(go_at_call 47;(with_reducible refine(L_sorted_layers.calls k gb255 A0 c0 l0  t256 _ ?side1 ?side2 ?side3 A8.out).mono ?_);(case side1=>exact(bk BK255.out));(case side2=>exact cb HR0 HB);(case side3=>exact HC0.out);rintro e w14 ⟨v257,rfl,ho0,hb⟩;replace HO253:=rb HO253 hb;have HO258:=m0 (Kd.R_lower ho0 (below_size bz));replace BK255:=bb BK255 hb;replace HB:=sb HB hb;(try clear hb);(try clear ho0);obtain⟨Ao15,co15,eo15⟩:=Kd.R_slice HO258.out;subst eo15))
  go_loopg [8,29] k (fun kq v8 v29 w'=>∃ (x8_1:Int) (x29_1:Int),v8= .int .i64 x8_1∧v29= .int .i64 x29_1∧Aside0 (L_CeilingOf.l0 kq a1 x8_1 t256 (t256.length:Int) x29_1=some (r1,r2))∧Aside0 (kq≤k)∧Aside0 (Kd.R k64 64 w' w.heap.size (fun _=>True) (.slice Ao15 t256.length co15) t256)∧Aside0 (w'.heap[gb255]?=some (.cells #[(.slice A0 l0.length c0)] 23 (0,0)))∧Aside0 (Below w.heap.size w w'))
  case atStart=>exact⟨(0),(0),rz,rz,H',⟨Nat.le_refl _⟩,⟨br HO258.out⟩,⟨bk BK255.out⟩,⟨bz⟩⟩
  case round=>
   clear H';obtain⟨x8_1,x29_1,rfl,rfl,HA,HK1,HO_27,BK255,HB⟩:=hrel
   cases gk with
   |zero=>exact absurd HA.out (by simp[L_CeilingOf.l0])
   | succ k1=>
    have H:=HA.out;clear HA;simp only[L_CeilingOf.l0]at H
    by_cases c16:x29_1<(t256.length:Int)
    ·rw [if_pos c16]at H;have c16b0:=decide_eq_true c16;clear c16
     by_cases c17:0≤x29_1
     ·rw [if_pos c17]at H;have c17b0:=decide_eq_true c17;clear c17
      by_cases c18:x29_1<(t256.length:Int)
      ·rw [if_pos c18]at H;have c18b0:=decide_eq_true c18;clear c18;have p259:0≤(x29_1:Int):=od;have q259:x29_1<(t256.length:Int):=od;obtain⟨ad259,e259,hx259_0,hx259_1,hx259_2⟩:=at_T64 (Kd.R_reads' HO_27.out).2.2 x29_1 p259 q259
       cases e259
       replace p259:=eq_true p259;replace q259:=eq_true q259
       by_cases c19:(wrap64 (x8_1+((rd_T64 t256 x29_1).f2)))≥a1
       ·rw [if_pos c19]at H;have c19b0:=decide_eq_true c19;clear c19;simp only[Option.some.injEq,Prod.mk.injEq]at H;obtain⟨rfl,rfl⟩:=H
        go_wp2_with (first|((with_reducible refine ga 10 rfl ?_);refine be 10 64 #[.int .i64 0,.int .i64 0,.int .i64 0] ?_;intro gb260 hg w20 hbox hb;replace HO_27:=m0 (Kd.R_below (Kd.R_elderB (br HO_27.out) gb260 (Nat.le_of_eq hg.symm)) hb);have BK260:=m0 hbox;have GE260:=gw w hg;replace HB:=sb HB hb;have NB255_260:=nl BK255 hg;have NB260_255:=ng (nl BK255 hg);replace BK255:=bb BK255 hb;clear hb hbox hg;have hnb21:=NB260_255.out;have hnc21:=NB255_260.out;obtain⟨_,_,_,_,_,_⟩:=b3 BK260))
        go_ret2
        exact ez
       ·rw [if_neg c19]at H;have c19b0:=decide_eq_false c19;clear c19;have H':=m0 H;clear H
        go_wp2_with (first|((with_reducible refine ga 10 rfl ?_);refine be 10 64 #[.int .i64 0,.int .i64 0,.int .i64 0] ?_;intro gb260 hg w23 hbox hb;replace HO_27:=m0 (Kd.R_below (Kd.R_elderB (br HO_27.out) gb260 (Nat.le_of_eq hg.symm)) hb);have BK260:=m0 hbox;have GE260:=gw w hg;replace HB:=sb HB hb;have NB255_260:=nl BK255 hg;have NB260_255:=ng (nl BK255 hg);replace BK255:=bb BK255 hb;clear hb hbox hg;have hnb24:=NB260_255.out;have hnc24:=NB255_260.out;obtain⟨_,_,_,_,_,_⟩:=b3 BK260))
        go_roundg k1
        case measure=>have:=HK1.out;omega
        case rel=>exact⟨(wrap64 (x8_1+((rd_T64 t256 x29_1).f2))),(wrap64 (x29_1+1)),rz,rz,H',⟨by have:=HK1.out;omega⟩,⟨by (with_reducible repeat(first|apply Kd.R_alloc|apply Kd.R_drewN|apply Kd.R_drew));exact Kd.R_mono (rf (rf (rf (rn gb260 HO_27.out (·.2)) (·.2)) (·.2)) (·.2)) (fun _ hk=>trivial)⟩,⟨bq BK255.out⟩,⟨bz⟩⟩
      ·rw [if_neg c18]at H;exact absurd H (by simp)
     ·rw [if_neg c17]at H;exact absurd H (by simp)
    ·rw [if_neg c16]at H;have c16b0:=decide_eq_false c16;clear c16;simp only[Option.some.injEq,Prod.mk.injEq]at H;obtain⟨rfl,rfl⟩:=H
     go_wp2
     go_ret2
     exact ez
 ·rw [if_neg c7]at H;have c7b0:=beq_eq_false_iff_ne.mpr c7;have c7b1:=bne_iff_ne.mpr c7;simp only[Option.some.injEq,Prod.mk.injEq]at H;obtain⟨rfl,rfl⟩:=H;go_enter Tryz.func22,Tryz.ntmps22
  go_wp2_with (first|((with_reducible refine gc 33 rfl ?_);refine gl (some 13) Tryz.func33 #[.slice A0 l0.length c0] ?_;(with_reducible refine(L_CheckLayers.calls k _ _ l0 t247 t248 _ ?side1 ?side2 A3.out).mono ?_);(case side1=>exact cd HR0.out);(case side2=>exact HC0.out);rintro e w26 ⟨rfl,hb⟩;refine⟨_,rfl,?_⟩;replace HB:=sb HB hb;(try clear hb))|((with_reducible refine gc 46 rfl ?_);refine gl (some 18) Tryz.func46 #[.int .i64 a1,.int .i64 1,.int .i64 8] ?_;(with_reducible refine(L_within.calls a1 1 8 t249 _ A4.out).mono ?_);rintro e w' ⟨rfl,⟨nd,rfl⟩⟩;refine⟨_,rfl,?_⟩)|((with_reducible refine gc 45 rfl ?_);refine gl (some 19) Tryz.func45 #[.bool t249,.int .i64 2] ?_;(with_reducible refine(L_unless.calls t249 2 t250 _ A5.out).mono ?_);rintro e w' ⟨rfl,⟨nd,rfl⟩⟩;refine⟨_,rfl,?_⟩)|((with_reducible refine ga 20 rfl ?_);refine Kd.R_lit (Kd.int .i64) _ 30 ?hg (N:=20) ?hd (xs:=([t248,t250]:List Int)) (inner:=[.int .i64 t248,.int .i64 t250]) (ok:=fun _=>True) (okp:=fun _=>True) ?hr ?hp (fun _ hk=>hk) trivial (Below.refl _ _) (Nat.le_refl _) (by simp) ?_;(case hd=>rfl);(case hg=>rfl);(case hr=>first|(go_simp;done)|(go_simp;rfl));(case hp=>exact(Reps.one (ki t248) (Reps.one (ki t250) (Reps.none _ _))));intro v252 w27 ho28 hb hg_ hnew_;clear hg_ hnew_;(first|rw[← Ny251.out]at ho28|(simp only[Int.reduceToNat]at ho28;rw[← Ny251.out]at ho28));have HO253:=m0 (Kd.R_lower ho28 (below_size bz));replace HB:=sb HB hb;clear hb ho28;obtain⟨Ao29,co29,eo29⟩:=Kd.R_slice HO253.out;subst eo29)|((with_reducible refine gc 40 rfl ?_);refine gl (some 21) Tryz.func40 #[.slice Ao29 y251.length co29] ?_;(with_reducible refine(L_first.calls k _ _ y251 t254 _ ?side1 ?side2 A6.out).mono ?_);(case side1=>exact bc (Kd.R_reads' HO253.out).2.2);(case side2=>exact(Kd.R_reads' HO253.out).2.1);rintro e w' ⟨rfl,⟨nd,rfl⟩⟩;refine⟨_,rfl,?_⟩))
  go_ret2
  exact ez
end
section
def Lw_Layers.f  :Option ((List (S64))):=some (([(⟨500,800,3⟩:S64),(⟨300,400,2⟩:S64),(⟨900,1000,4⟩:S64)]:List (S64)))
theorem Lw_Layers.calls  (r:List (S64)) (w:World) (H:Lw_Layers.f  =some r):
  Calls Tryz.prog 23 #[] w fun e w'=>∃ v0_:Value,e= .returned (v0_)∧Kd.R k64 64 w' w.heap.size (fun _=>True) v0_ r∧Below w.heap.size w w':=by
 have hu64:=Tryz.underlying64;have HB:=m0 (Below.refl w.heap.size w);unfold Lw_Layers.f at H;obtain⟨y261,hy261⟩:∃ y_:List (S64),y_=(([(⟨500,800,3⟩:S64),(⟨300,400,2⟩:S64),(⟨900,1000,4⟩:S64)]:List (S64))):=⟨_,rfl⟩;replace H:(some y261)=some r:=hq hy261 H
 have Ny261:=m0 hy261;clear hy261;obtain rfl:=Option.some.inj H;go_enter Tryz.func23,Tryz.ntmps23
 go_wp2_with (first|((with_reducible refine ga 4 rfl ?_);refine Kd.R_lit k64 _ 64 ?hg (N:=4) ?hd (xs:=([(⟨500,800,3⟩:S64),(⟨300,400,2⟩:S64),(⟨900,1000,4⟩:S64)]:List (S64))) (inner:=[.int .i64 500,.int .i64 800,.int .i64 3,.int .i64 300,.int .i64 400,.int .i64 2,.int .i64 900,.int .i64 1000,.int .i64 4]) (ok:=fun _=>True) (okp:=fun _=>True) ?hr ?hp (fun _ hk=>hk) trivial (Below.refl _ _) (Nat.le_refl _) (by simp) ?_;(case hd=>rfl);(case hg=>rfl);(case hr=>first|(go_simp;done)|(go_simp;rfl));(case hp=>exact(Reps.c3 (show Kd.M k64 _ _ _ (⟨500,800,3⟩:S64) [.int .i64 500,.int .i64 800,.int .i64 3]from(k64_mkM _ _ _ (⟨500,800,3⟩:S64) )) (Reps.c3 (show Kd.M k64 _ _ _ (⟨300,400,2⟩:S64) [.int .i64 300,.int .i64 400,.int .i64 2]from(k64_mkM _ _ _ (⟨300,400,2⟩:S64) )) (Reps.c3 (show Kd.M k64 _ _ _ (⟨900,1000,4⟩:S64) [.int .i64 900,.int .i64 1000,.int .i64 4]from(k64_mkM _ _ _ (⟨900,1000,4⟩:S64) )) (Reps.none _ _)))));intro v262 w1 ho2 hb hg_ hnew_;clear hg_ hnew_;(first|rw[← Ny261.out]at ho2|(simp only[Int.reduceToNat]at ho2;rw[← Ny261.out]at ho2));have HO263:=m0 (Kd.R_lower ho2 (below_size bz));replace HB:=sb HB hb;clear hb ho2))
 go_ret
 exact⟨_,e4,by(with_reducible repeat(first|apply Kd.R_alloc|apply Kd.R_drewN|apply Kd.R_drew));exact HO263.out,bz⟩
end
section
def L_isTime.f (a0:Int):Option (Bool):=(L_within.f a0 0 1000000).bind fun t264=>(some t264)
theorem L_isTime.calls (a0:Int) (r:Bool) (w:World) (H:L_isTime.f a0=some r):
  Calls Tryz.prog 80 #[.int .i64 a0] w fun e w'=>e= .returned (.bool r)∧Drawn0 w w':=by
 unfold L_isTime.f at H;replace H:=oa H;obtain⟨t264,A2,H⟩:=H;(try dsimp only at H);obtain rfl:=Option.some.inj H;go_enter Tryz.func80,Tryz.ntmps80
 go_wp2_with (first|((with_reducible refine gc 46 rfl ?_);refine gl (some 4) Tryz.func46 #[.int .i64 a0,.int .i64 0,.int .i64 1000000] ?_;(with_reducible refine(L_within.calls a0 0 1000000 t264 _ A2.out).mono ?_);rintro e w' ⟨rfl,⟨nd,rfl⟩⟩;refine⟨_,rfl,?_⟩))
 go_ret
 exact⟨rz,dz⟩
end
end Go.Proofs.YteiafijbgjgiaaaGreatDoor.A
