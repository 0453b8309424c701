/- Walks of the program's functions (printed, made shorter), each with what it computes. -/
import Derived.Test.YtggiijffaifajaaT15
import Derived.Test.YtggiijffaifajaaT16
namespace Go.Proofs.Ytggiijffaifajaa.A
set_option maxHeartbeats 8000000
set_option maxRecDepth 100000
open Go.RowKit Go.Proofs.YtggiijffaifajaaW.PrintWords Go.Proofs.YtggiijffaifajaaW.PrintLast Go.Proofs.YtggiijffaifajaaW.PrintMore
attribute [local go_sem] max2_int min2_int max_two min_two max_three min_three max_four min_four
set_option linter.unusedVariables false
set_option linter.unusedSimpArgs false
mutual
def glidepathtop_TopCloudLayers.j0:Nat→List (S27)→Int→Int→Bool→Option (Bool)
  |0,_,_,_,_=>none
  |k+1,x0,x1,x2,x46=>if x46=true then(some true)else(glidepathtop_TopCloudLayers.l0 k x0 x1 x2 ([]:List Int) ([]:List Int) ([]:List (S29)) 0)
def glidepathtop_TopCloudLayers.l0:Nat→List (S27)→Int→Int→List Int→List Int→List (S29)→Int→Option (Bool)
  |0,_,_,_,_,_,_,_=>none
  |k+1,x0,x1,x2,x7,x8,x9,x10=>if x10<(x0.length:Int)then(if 0≤x10 then((Bs_Within.f ((rd_T27 x0 x10).f0) 0 100).bind fun t342=>(if t342=true then((Bs_Within.f ((rd_T27 x0 x10).f1) 1 4).bind fun t344=>(if t344=true then(if x10>0 then(if 0≤(wrap64 (x10-1))then(if(wrap64 (x10-1))<(x0.length:Int)then(glidepathtop_TopCloudLayers.j2 k x0 x1 x2 x7 x8 x9 x10 (((rd_T27 x0 x10).f0)==((rd_T27 x0 (wrap64 (x10-1))).f0)))else(none))else(none))else(glidepathtop_TopCloudLayers.j2 k x0 x1 x2 x7 x8 x9 x10 false))else(glidepathtop_TopCloudLayers.j2 k x0 x1 x2 x7 x8 x9 x10 true)))else(glidepathtop_TopCloudLayers.j2 k x0 x1 x2 x7 x8 x9 x10 true)))else(none))else((Bs_CopyInts.f x7).bind fun t367=>((L_SegmentsOf.f k t367 0).bind fun bt370=>((Bs_CopyInts.f x7).bind fun t375=>((L_SegmentsOf.f k t375 x1).bind fun bt378=>((Bs_CopyInts.f x7).bind fun t383=>((L_LayersIn.f k t383 50 0 1).bind fun bt386=>(if bt370.2.2=0 then((Bs_Ints.f k bt370.1 x8).bind fun t390=>(if t390=true then(if bt370.2.1=0 then(if bt378.2.2=0 then(if(bt378.1.length:Int)>(x8.length:Int)then(none)else(if bt378.2.1>(wrap64 (x1*(x8.length:Int)))then(none)else(if bt386.2=0 then((Bs_Ranges.f k bt386.1 x9).bind fun t391=>(glidepathtop_TopCloudLayers.j5 k x2 x9 bt386.1 (!t391)))else(none))))else(none))else(none))else(none)))else(none))))))))
def glidepathtop_TopCloudLayers.j2:Nat→List (S27)→Int→Int→List Int→List Int→List (S29)→Int→Bool→Option (Bool)
  |0,_,_,_,_,_,_,_,_=>none
  |k+1,x0,x1,x2,x7,x8,x9,x10,x86=>if x86=true then(some true)else(if x8.length<17592186044416 then((some (x8++ [(x7.length:Int)]:List Int)).bind fun y347=>(if 0≤x10 then(if x10<(x0.length:Int)then(if((rd_T27 x0 x10).f0)≥50 then(if(x9.length:Int)>0 then(if 0≤(wrap64 ((x9.length:Int)-1))then(if(wrap64 ((x9.length:Int)-1))<(x9.length:Int)then(if((rd_T29 x9 (wrap64 ((x9.length:Int)-1))).f1)=(wrap64 ((x7.length:Int)-1))then(glidepathtop_TopCloudLayers.j3 k x0 x1 x2 x7 y347 (x9.set ((wrap64 ((x9.length:Int)-1)):Int).toNat (⟨(rd_T29 x9 (wrap64 ((x9.length:Int)-1))).f0,wrap64 ((wrap64 ((x7.length:Int)+((rd_T27 x0 x10).f1)))-1)⟩:S29)) x10)else(if x9.length<8796093022208 then(glidepathtop_TopCloudLayers.j3 k x0 x1 x2 x7 y347 (x9++ [(⟨(x7.length:Int),wrap64 ((wrap64 ((x7.length:Int)+((rd_T27 x0 x10).f1)))-1)⟩:S29)]) x10)else(none)))else(none))else(none))else(if x9.length<8796093022208 then(glidepathtop_TopCloudLayers.j3 k x0 x1 x2 x7 y347 (x9++ [(⟨(x7.length:Int),wrap64 ((wrap64 ((x7.length:Int)+((rd_T27 x0 x10).f1)))-1)⟩:S29)]) x10)else(none)))else(glidepathtop_TopCloudLayers.j3 k x0 x1 x2 x7 y347 x9 x10))else(none))else(none)))else(none))
def glidepathtop_TopCloudLayers.j3:Nat→List (S27)→Int→Int→List Int→List Int→List (S29)→Int→Option (Bool)
  |0,_,_,_,_,_,_,_=>none
  |k+1,x0,x1,x2,x7,x8,x9,x10=>glidepathtop_TopCloudLayers.l1 k x0 x1 x2 x7 x8 x9 x10 0
def glidepathtop_TopCloudLayers.l1:Nat→List (S27)→Int→Int→List Int→List Int→List (S29)→Int→Int→Option (Bool)
  |0,_,_,_,_,_,_,_,_=>none
  |k+1,x0,x1,x2,x7,x8,x9,x10,x12=>if 0≤x10 then(if x10<(x0.length:Int)then(if x12<((rd_T27 x0 x10).f1)then(if x7.length<17592186044416 then(glidepathtop_TopCloudLayers.l1 k x0 x1 x2 (x7++ [(rd_T27 x0 x10).f0]) x8 x9 x10 (wrap64 (x12+1)))else(none))else(glidepathtop_TopCloudLayers.l0 k x0 x1 x2 x7 x8 x9 (wrap64 (x10+1))))else(none))else(none)
def glidepathtop_TopCloudLayers.j5:Nat→Int→List (S29)→List (S29)→Bool→Option (Bool)
  |0,_,_,_,_=>none
  |k+1,x2,x9,x19,x222=>if x222=true then(none)else(if(x9.length:Int)=0 then(some true)else(glidepathtop_TopCloudLayers.l2 k x2 x9 x19 ([]:List (S42)) 0))
def glidepathtop_TopCloudLayers.l2:Nat→Int→List (S29)→List (S29)→List (S42)→Int→Option (Bool)
  |0,_,_,_,_,_=>none
  |k+1,x2,x9,x19,x21,x22=>if x22<(x19.length:Int)then(if 0≤x22 then((some (([(⟨wrap64 (100*((rd_T29 x19 x22).f0)),wrap64 ((wrap64 (100*((rd_T29 x19 x22).f1)))+100),5⟩:S42)]:List (S42)):List (S42))).bind fun y394=>(if y394.length+x21.length<5864062014805 then(glidepathtop_TopCloudLayers.l2 k x2 x9 x19 (y394++x21) (wrap64 (x22+1)))else(none)))else(none))else((L_CeilingOf.f k x21 5).bind fun bt400=>((L_MiddleOf.f k (([bt400.1,x2,bt400.1]:List Int))).bind fun bt405=>(if bt400.2=0 then(if 0<(x9.length:Int)then(if bt400.1=(wrap64 (100*((rd_T29 x9 0).f0)))then(if bt405.2=0 then(some (bt405.1==bt400.1))else(none))else(none))else(none))else(none))))
end
def glidepathtop_TopCloudLayers.f (k:Nat) (l0:List (S27)) (a1:Int) (a2:Int):Option (Bool):=(glidepathtop_cloudShown.f k).bind fun t338=>(if t338=true then(if(l0.length:Int)=0 then(glidepathtop_TopCloudLayers.j0 k l0 a1 a2 true)else(if(l0.length:Int)>6 then(glidepathtop_TopCloudLayers.j0 k l0 a1 a2 true)else((Bs_Within.f a1 0 100000).bind fun t339=>(if t339=true then((Bs_Within.f a2 0 20000).bind fun t340=>(glidepathtop_TopCloudLayers.j0 k l0 a1 a2 (!t340)))else(glidepathtop_TopCloudLayers.j0 k l0 a1 a2 true)))))else(none))
theorem glidepathtop_TopCloudLayers.mono_l:∀ k,(∀ y0 y1 y2 y3,LeO (glidepathtop_TopCloudLayers.j0 k y0 y1 y2 y3) (glidepathtop_TopCloudLayers.j0 (k+1) y0 y1 y2 y3))∧(∀ y0 y1 y2 y3 y4 y5 y6,LeO (glidepathtop_TopCloudLayers.l0 k y0 y1 y2 y3 y4 y5 y6) (glidepathtop_TopCloudLayers.l0 (k+1) y0 y1 y2 y3 y4 y5 y6))∧(∀ y0 y1 y2 y3 y4 y5 y6 y7,LeO (glidepathtop_TopCloudLayers.j2 k y0 y1 y2 y3 y4 y5 y6 y7) (glidepathtop_TopCloudLayers.j2 (k+1) y0 y1 y2 y3 y4 y5 y6 y7))∧(∀ y0 y1 y2 y3 y4 y5 y6,LeO (glidepathtop_TopCloudLayers.j3 k y0 y1 y2 y3 y4 y5 y6) (glidepathtop_TopCloudLayers.j3 (k+1) y0 y1 y2 y3 y4 y5 y6))∧(∀ y0 y1 y2 y3 y4 y5 y6 y7,LeO (glidepathtop_TopCloudLayers.l1 k y0 y1 y2 y3 y4 y5 y6 y7) (glidepathtop_TopCloudLayers.l1 (k+1) y0 y1 y2 y3 y4 y5 y6 y7))∧(∀ y0 y1 y2 y3,LeO (glidepathtop_TopCloudLayers.j5 k y0 y1 y2 y3) (glidepathtop_TopCloudLayers.j5 (k+1) y0 y1 y2 y3))∧(∀ y0 y1 y2 y3 y4,LeO (glidepathtop_TopCloudLayers.l2 k y0 y1 y2 y3 y4) (glidepathtop_TopCloudLayers.l2 (k+1) y0 y1 y2 y3 y4))
  |0=>⟨fun _ _ _ _ r h=>by simp[glidepathtop_TopCloudLayers.j0]at h,fun _ _ _ _ _ _ _ r h=>by simp[glidepathtop_TopCloudLayers.l0]at h,fun _ _ _ _ _ _ _ _ r h=>by simp[glidepathtop_TopCloudLayers.j2]at h,fun _ _ _ _ _ _ _ r h=>by simp[glidepathtop_TopCloudLayers.j3]at h,fun _ _ _ _ _ _ _ _ r h=>by simp[glidepathtop_TopCloudLayers.l1]at h,fun _ _ _ _ r h=>by simp[glidepathtop_TopCloudLayers.j5]at h,fun _ _ _ _ _ r h=>by simp[glidepathtop_TopCloudLayers.l2]at h⟩
  | k + 1=>by
    obtain⟨ih0,ih1,ih2,ih3,ih4,ih5,ih6⟩:=glidepathtop_TopCloudLayers.mono_l k;refine⟨?_,?_,?_,?_,?_,?_,?_⟩
    · intro y0 y1 y2 y3;unfold glidepathtop_TopCloudLayers.j0
      repeat' with_reducible first
        |exact ih0 ..
        |exact ih1 ..
        |exact ih2 ..
        |exact ih3 ..
        |exact ih4 ..
        |exact ih5 ..
        |exact ih6 ..
        |exact L_CeilingOf.mono ..
        |exact L_LayersIn.mono ..
        |exact L_MiddleOf.mono ..
        |exact L_SegmentsOf.mono ..
        |exact Bs_Ints.mono ..
        |exact Bs_Ranges.mono ..
        |exact glidepathtop_cloudShown.mono ..
        |exact LeO.refl ..
        |exact LeO.none ..
        |refine LeO.ite ?_ ?_
        |refine LeO.bind ?_ (fun _=>?_)
    · intro y0 y1 y2 y3 y4 y5 y6;unfold glidepathtop_TopCloudLayers.l0
      repeat' with_reducible first
        |exact ih0 ..
        |exact ih1 ..
        |exact ih2 ..
        |exact ih3 ..
        |exact ih4 ..
        |exact ih5 ..
        |exact ih6 ..
        |exact L_CeilingOf.mono ..
        |exact L_LayersIn.mono ..
        |exact L_MiddleOf.mono ..
        |exact L_SegmentsOf.mono ..
        |exact Bs_Ints.mono ..
        |exact Bs_Ranges.mono ..
        |exact glidepathtop_cloudShown.mono ..
        |exact LeO.refl ..
        |exact LeO.none ..
        |refine LeO.ite ?_ ?_
        |refine LeO.bind ?_ (fun _=>?_)
    · intro y0 y1 y2 y3 y4 y5 y6 y7;unfold glidepathtop_TopCloudLayers.j2
      repeat' with_reducible first
        |exact ih0 ..
        |exact ih1 ..
        |exact ih2 ..
        |exact ih3 ..
        |exact ih4 ..
        |exact ih5 ..
        |exact ih6 ..
        |exact L_CeilingOf.mono ..
        |exact L_LayersIn.mono ..
        |exact L_MiddleOf.mono ..
        |exact L_SegmentsOf.mono ..
        |exact Bs_Ints.mono ..
        |exact Bs_Ranges.mono ..
        |exact glidepathtop_cloudShown.mono ..
        |exact LeO.refl ..
        |exact LeO.none ..
        |refine LeO.ite ?_ ?_
        |refine LeO.bind ?_ (fun _=>?_)
    · intro y0 y1 y2 y3 y4 y5 y6;unfold glidepathtop_TopCloudLayers.j3
      repeat' with_reducible first
        |exact ih0 ..
        |exact ih1 ..
        |exact ih2 ..
        |exact ih3 ..
        |exact ih4 ..
        |exact ih5 ..
        |exact ih6 ..
        |exact L_CeilingOf.mono ..
        |exact L_LayersIn.mono ..
        |exact L_MiddleOf.mono ..
        |exact L_SegmentsOf.mono ..
        |exact Bs_Ints.mono ..
        |exact Bs_Ranges.mono ..
        |exact glidepathtop_cloudShown.mono ..
        |exact LeO.refl ..
        |exact LeO.none ..
        |refine LeO.ite ?_ ?_
        |refine LeO.bind ?_ (fun _=>?_)
    · intro y0 y1 y2 y3 y4 y5 y6 y7;unfold glidepathtop_TopCloudLayers.l1
      repeat' with_reducible first
        |exact ih0 ..
        |exact ih1 ..
        |exact ih2 ..
        |exact ih3 ..
        |exact ih4 ..
        |exact ih5 ..
        |exact ih6 ..
        |exact L_CeilingOf.mono ..
        |exact L_LayersIn.mono ..
        |exact L_MiddleOf.mono ..
        |exact L_SegmentsOf.mono ..
        |exact Bs_Ints.mono ..
        |exact Bs_Ranges.mono ..
        |exact glidepathtop_cloudShown.mono ..
        |exact LeO.refl ..
        |exact LeO.none ..
        |refine LeO.ite ?_ ?_
        |refine LeO.bind ?_ (fun _=>?_)
    · intro y0 y1 y2 y3;unfold glidepathtop_TopCloudLayers.j5
      repeat' with_reducible first
        |exact ih0 ..
        |exact ih1 ..
        |exact ih2 ..
        |exact ih3 ..
        |exact ih4 ..
        |exact ih5 ..
        |exact ih6 ..
        |exact L_CeilingOf.mono ..
        |exact L_LayersIn.mono ..
        |exact L_MiddleOf.mono ..
        |exact L_SegmentsOf.mono ..
        |exact Bs_Ints.mono ..
        |exact Bs_Ranges.mono ..
        |exact glidepathtop_cloudShown.mono ..
        |exact LeO.refl ..
        |exact LeO.none ..
        |refine LeO.ite ?_ ?_
        |refine LeO.bind ?_ (fun _=>?_)
    · intro y0 y1 y2 y3 y4;unfold glidepathtop_TopCloudLayers.l2
      repeat' with_reducible first
        |exact ih0 ..
        |exact ih1 ..
        |exact ih2 ..
        |exact ih3 ..
        |exact ih4 ..
        |exact ih5 ..
        |exact ih6 ..
        |exact L_CeilingOf.mono ..
        |exact L_LayersIn.mono ..
        |exact L_MiddleOf.mono ..
        |exact L_SegmentsOf.mono ..
        |exact Bs_Ints.mono ..
        |exact Bs_Ranges.mono ..
        |exact glidepathtop_cloudShown.mono ..
        |exact LeO.refl ..
        |exact LeO.none ..
        |refine LeO.ite ?_ ?_
        |refine LeO.bind ?_ (fun _=>?_)
theorem glidepathtop_TopCloudLayers.mono:∀ a0 a1 a2 k,LeO (glidepathtop_TopCloudLayers.f k a0 a1 a2) (glidepathtop_TopCloudLayers.f (k+1) a0 a1 a2):=by
  intro a0 a1 a2 k;obtain⟨ih0,ih1,ih2,ih3,ih4,ih5,ih6⟩:=glidepathtop_TopCloudLayers.mono_l k;unfold glidepathtop_TopCloudLayers.f
  repeat' with_reducible first
    |exact ih0 ..
    |exact ih1 ..
    |exact ih2 ..
    |exact ih3 ..
    |exact ih4 ..
    |exact ih5 ..
    |exact ih6 ..
    |exact L_CeilingOf.mono ..
    |exact L_LayersIn.mono ..
    |exact L_MiddleOf.mono ..
    |exact L_SegmentsOf.mono ..
    |exact Bs_Ints.mono ..
    |exact Bs_Ranges.mono ..
    |exact glidepathtop_cloudShown.mono ..
    |exact LeO.refl ..
    |exact LeO.none ..
    |refine LeO.ite ?_ ?_
    |refine LeO.bind ?_ (fun _=>?_)
def glidepathtop_TopCloudLayers.T10:Bool×List (List Nat×List Nat):=(true,[([],[]),([],[]),([0,1],[0,1]),([2],[2]),([3],[3]),([4],[4]),([5],[5]),([6,5],[6]),([7],[7]),([7],[7]),([8,9,7],[7,8,9]),([10,7],[7,10]),([11,7],[7,11]),([12,7,7],[7,12]),([13,7],[7,13]),([7,14],[7,14]),([15,13],[15]),([16],[16]),([17,16],[16,17]),([18,16,16],[16,18]),([19],[19]),([19],[19]),([20,21,19],[19,20,21]),([22,19],[19,22]),([23,19],[19,23]),([19],[19]),([19],[19]),([26,19],[19,26]),([25,27,19],[19,25,27]),([28,19],[19,28]),([29,19],[19,29]),([24,30,19],[19,24,30]),([19,31,16],[16,19,31]),([16,32],[16,32])])
def glidepathtop_TopCloudLayers.B10:List Nat:=[0,0,3,7,15,31,63,127,255,255,1023,2047,4095,8191,16383,32767,65535,131071,262143,524287,1048575,1048575,4194303,8388607,16777215,1048575,1048575,68157439,235929599,504365055,1041235967,2147483647,4294967295,8589934591]
theorem glidepathtop_TopCloudLayers.tab10:rtab .any (opsOf Try.f3 10)=glidepathtop_TopCloudLayers.T10:=by kernel_rfl
theorem glidepathtop_TopCloudLayers.bits10:waitsOk glidepathtop_TopCloudLayers.T10.2 glidepathtop_TopCloudLayers.B10=true:=by kernel_rfl
def glidepathtop_TopCloudLayers.T33:Bool×List (List Nat×List Nat):=(true,[([],[]),([],[]),([0,1],[0,1]),([2],[2]),([3],[3]),([4],[4]),([],[]),([],[]),([6,7],[6,7]),([8],[8]),([9],[9]),([10],[10]),([11],[11]),([5,12],[5,12]),([13],[13]),([],[]),([14,15],[14,15]),([16,16,0,1,2,3,4,5,6,7,8,9,10,11,12,13,14,15,16],[15,16])])
def glidepathtop_TopCloudLayers.B33:List Nat:=[0,0,3,7,15,31,0,0,192,448,960,1984,4032,8191,16383,0,65535,131071]
theorem glidepathtop_TopCloudLayers.tab33:rtab .any (opsOf Try.f3 33)=glidepathtop_TopCloudLayers.T33:=by kernel_rfl
theorem glidepathtop_TopCloudLayers.bits33:waitsOk glidepathtop_TopCloudLayers.T33.2 glidepathtop_TopCloudLayers.B33=true:=by kernel_rfl
theorem glidepathtop_TopCloudLayers.calls (k:Nat) (A0:Option Addr) (c0:Nat) (l0:List (S27)) (a1:Int) (a2:Int) (r:Bool) (w:World) (hr0:Kd.C k27 w A0 l0.length l0) (hc0:l0.length≤c0) (H:glidepathtop_TopCloudLayers.f k l0 a1 a2=some r):
    Calls Try.prog 3 #[.slice A0 l0.length c0,.int .i64 a1,.int .i64 a2] w fun e w'=>e= .returned (.bool r)∧Below w.heap.size w w':=by
  have hu29:=Try.underlying29;have hu37:=Try.underlying37;have hu42:=Try.underlying42;have hix27_0:∀ (g_:Nat) (W_:World),(Instr.indexAt 27 (.pointer (some ⟨g_,0,none⟩)) (.int .i64 0)).run Try.prog W_= .ok (.pointer (some ⟨g_,0,none⟩)) W_:=fun _ _=>by kernel_rfl
  have hix27_1:∀ (g_:Nat) (W_:World),(Instr.indexAt 27 (.pointer (some ⟨g_,0,none⟩)) (.int .i64 1)).run Try.prog W_= .ok (.pointer (some ⟨g_,1,none⟩)) W_:=fun _ _=>by kernel_rfl
  have HR0:=m0 hr0;have HC0:=m0 hc0;clear hr0 hc0;have HB:=m0 (Below.refl w.heap.size w);unfold glidepathtop_TopCloudLayers.f at H;replace H:=oa H;obtain⟨t338,A4,H⟩:=H;(try dsimp only at H)
  by_cases c5:t338=true
  · skip
    as_aux_lemma=>
    subst c5;rw[if_pos rfl]at H;have HC6:=m0 H;clear H;go_enter Try.func3,Try.ntmps3
    go_upto_region 3 with (first|((with_reducible refine gc 4 rfl ?_);refine gl (some 27) Try.func4 #[] ?_;(with_reducible refine(glidepathtop_cloudShown.calls k  true _ A4.out).mono ?_);rintro e w7 ⟨rfl,hb⟩;refine⟨_,rfl,?_⟩;replace HB:=sb HB hb;(try clear hb)))
    (try simp only[Act.put,List.setIfInBounds_toArray,List.set_cons_zero,List.set_cons_succ])
    go_cut [46] (fun v46 wc=>∃ (kq:Nat) (x46_5:Bool),v46= .bool x46_5∧Aside0 (glidepathtop_TopCloudLayers.j0 kq l0 a1 a2 x46_5=some r)∧Aside0 (kq≤k)∧Aside0 (Below w.heap.size w wc))
    case first=>
      have H:=HC6.out;clear HC6
      by_cases c8:(l0.length:Int)=0
      · rw[if_pos c8]at H;have c8b0:=beq_iff_eq.mpr c8;have c8b1:=bne_eq_false_iff_eq.mpr c8;clear c8
        (first|rw[c8b0]|(simp only[i64_w,i32_w];rw[c8b0])|skip)
        have H':=m0 H;clear H
        go_wp2
        go_meet
        case rel=>exact⟨_,(true),rz,H',⟨by first|omega|exact Nat.le_refl _⟩,⟨bz⟩⟩
      · rw [if_neg c8]at H;have c8b0:=beq_eq_false_iff_ne.mpr c8;have c8b1:=bne_iff_ne.mpr c8;have c8b2:¬ (l0=[]):=fun h_=>c8 (by rw[h_];rfl)
        (first|rw[c8b0]|(simp only[i64_w,i32_w];rw[c8b0])|skip)
        by_cases c9:(l0.length:Int)>6
        · rw[if_pos c9]at H;have c9b0:=decide_eq_true c9;have c9b1:decide (6<l0.length)=true:=decide_eq_true (by omega);clear c9;have H':=m0 H;clear H
          go_wp2
          go_meet
          case rel=>exact⟨_,(true),rz,H',⟨by first|omega|exact Nat.le_refl _⟩,⟨bz⟩⟩
        · rw[if_neg c9]at H;have c9b0:=decide_eq_false c9;have c9b1:decide (6<l0.length)=false:=decide_eq_false (by omega);clear c9;replace H:=oa H;obtain⟨t339,A10,H⟩:=H;(try dsimp only at H)
          by_cases c11:t339=true
          · subst c11;rw[if_pos rfl]at H;replace H:=oa H;obtain⟨t340,A12,H⟩:=H;(try dsimp only at H);have H':=m0 H;clear H
            go_wp2_with (first|(go_at_call 5;(with_reducible refine(Bs_Within.calls a1 0 100000 true _ A10.out).mono ?_);rintro e w' ⟨rfl,⟨nd,rfl⟩⟩)|(go_at_call 5;(with_reducible refine(Bs_Within.calls a2 0 20000 t340 _ A12.out).mono ?_);rintro e w' ⟨rfl,⟨nd,rfl⟩⟩))
            go_meet
            case rel=>exact⟨_,(!t340),rz,H',⟨by first|omega|exact Nat.le_refl _⟩,⟨bz⟩⟩
          · replace c11:=Bool.eq_false_iff.mpr c11;subst c11;rw[if_neg (show ¬ (false=true) by decide)]at H;have H':=m0 H;clear H
            go_wp2_with (first|(go_at_call 5;(with_reducible refine(Bs_Within.calls a1 0 100000 false _ A10.out).mono ?_);rintro e w' ⟨rfl,⟨nd,rfl⟩⟩))
            go_meet
            case rel=>exact⟨_,(true),rz,H',⟨by first|omega|exact Nat.le_refl _⟩,⟨bz⟩⟩
    case rest =>
      clear HC6;obtain⟨kq,x46_5,rfl,HA,HJ5,HB⟩:=hcut
      cases kq with
      |zero=>exact absurd HA.out (by simp[glidepathtop_TopCloudLayers.j0])
      | succ kj5 =>
        have H:=HA.out;clear HA;simp only[glidepathtop_TopCloudLayers.j0]at H
        by_cases c13:x46_5=true
        · subst c13;rw[if_pos rfl]at H;obtain rfl:=Option.some.inj H
          go_wp2
          go_ret
          exact ez
        · replace c13 := Bool.eq_false_iff.mpr c13;subst c13;rw[if_neg (show ¬ (false=true) by decide)]at H;have H':=m0 H;clear H
          go_wp2
          go_loopg [7,8,9,10] kj5 (fun kq v7 v8 v9 v10 w'=>∃ (x7_2:List Int) (x8_2:List Int) (x9_2:List (S29)) (x10_2:Int),v10= .int .i64 x10_2∧Aside0 (glidepathtop_TopCloudLayers.l0 kq l0 a1 a2 x7_2 x8_2 x9_2 x10_2=some r)∧Aside0 (kq≤kj5)∧Aside0 (Kd.R (Kd.int .i64) 3 w' w.heap.size (fun k_=>some k_≠(v8:Value).ownBlock) v7 x7_2)∧Aside0 (Kd.R (Kd.int .i64) 3 w' w.heap.size (fun k_=>some k_≠(v7:Value).ownBlock) v8 x8_2)∧Aside0 (Kd.R k29 29 w' w.heap.size (fun _=>True) v9 x9_2)∧Aside0 (Below w.heap.size w w'))
          case atStart=>exact⟨(([]:List Int)),(([]:List Int)),(([]:List (S29))),(0),rz,H',⟨Nat.le_refl _⟩,⟨by first|exact Kd.R_nil _ _ _ _ _|exact Kd.N_nil _ _ _ _ _|exact Kd.V_nil _ _ _ _ _|exact Kd.Q_nil _ _ _ _ _|exact Kd.S_nil _ _ _ _ _⟩,⟨by first|exact Kd.R_nil _ _ _ _ _|exact Kd.N_nil _ _ _ _ _|exact Kd.V_nil _ _ _ _ _|exact Kd.Q_nil _ _ _ _ _|exact Kd.S_nil _ _ _ _ _⟩,⟨by first|exact Kd.R_nil _ _ _ _ _|exact Kd.N_nil _ _ _ _ _|exact Kd.V_nil _ _ _ _ _|exact Kd.Q_nil _ _ _ _ _|exact Kd.S_nil _ _ _ _ _⟩,⟨bz⟩⟩
          case round =>
            clear H';obtain⟨x7_2,x8_2,x9_2,x10_2,rfl,HA,HK2,HO_7,HO_8,HO_9,HB⟩:=hrel
            cases gk with
            |zero=>exact absurd HA.out (by simp[glidepathtop_TopCloudLayers.l0])
            | succ k2 =>
              have H:=HA.out;clear HA;simp only[glidepathtop_TopCloudLayers.l0]at H
              by_cases c14:x10_2<(l0.length:Int)
              · skip
                as_aux_lemma=>
                rw[if_pos c14]at H;have c14b0:=decide_eq_true c14;clear c14;have HC15:=m0 H;clear H
                go_upto_region 10 with (fail)
                go_cut [86] (fun v86 wc=>∃ (kq:Nat) (x86_14:Bool),v86= .bool x86_14∧Aside0 (glidepathtop_TopCloudLayers.j2 kq l0 a1 a2 x7_2 x8_2 x9_2 x10_2 x86_14=some r)∧Aside0 (kq≤k2)∧Aside0 (Kd.R (Kd.int .i64) 3 wc w.heap.size (fun k_=>some k_≠(u8:Value).ownBlock) u7 x7_2)∧Aside0 (Kd.R (Kd.int .i64) 3 wc w.heap.size (fun k_=>some k_≠(u7:Value).ownBlock) u8 x8_2)∧Aside0 (Kd.R k29 29 wc w.heap.size (fun _=>True) u9 x9_2)∧Aside0 (Below w.heap.size w wc))
                case first =>
                  have H:=HC15.out;clear HC15
                  by_cases c16:0≤x10_2
                  · rw [if_pos c16]at H;have c16b0:=decide_eq_true c16;clear c16
                    (first|rw[c16b0]|(simp only[i64_w,i32_w];rw[c16b0])|skip)
                    replace H:=oa H;obtain⟨t342,A17,H⟩:=H;(try dsimp only at H)
                    by_cases c18:t342=true
                    · subst c18;rw[if_pos rfl]at H;replace H:=oa H;obtain⟨t344,A19,H⟩:=H;(try dsimp only at H)
                      by_cases c20:t344=true
                      · subst c20;rw[if_pos rfl]at H
                        by_cases c21:x10_2>0
                        · rw [if_pos c21]at H;have c21b0:=decide_eq_true c21;clear c21;obtain⟨ji22,hji22⟩:∃ j_:Int,(wrap64 (x10_2-1))=j_:=⟨_,rfl⟩;replace H:(if 0≤(ji22)then(if(ji22)<(l0.length:Int)then(glidepathtop_TopCloudLayers.j2 k2 l0 a1 a2 x7_2 x8_2 x9_2 x10_2 (((rd_T27 l0 x10_2).f0)==((rd_T27 l0 (ji22)).f0)))else(none))else(none))=some r:=by first|(rw[hji22]at H;exact H)|(simp only[hji22]at H ⊢;exact H)
                          (try rw[hji22]at A17);(try rw[hji22]at A19);have hji22w:(IntKind.i64.wrap (x10_2-1))=ji22:=(i64_w _).trans hji22
                          by_cases c23:0≤(ji22)
                          · rw[if_pos c23]at H;have c23b0:=decide_eq_true c23;clear c23
                            by_cases c24:(ji22)<(l0.length:Int)
                            · skip
                              as_aux_lemma=>
                              rw[if_pos c24]at H;have c24b0:=decide_eq_true c24;clear c24;have H':=m0 H;clear H
                              try go_wp2
                              replace HO_7:=m0 (Kd.R_drew HO_7.out);replace HO_8:=m0 (Kd.R_drew HO_8.out);replace HO_9:=m0 (Kd.R_drew HO_9.out);replace HB:=sd HB;have p341:0≤(x10_2:Int):=od;have q341:x10_2<(l0.length:Int):=od;obtain⟨ad341,e341,hx341_0,hx341_1⟩:=at_T27 HR0.out x10_2 p341 q341;have hw341_1:=hx341_1;have hw341_0:=hx341_0
                              cases e341
                              replace hx341_0:=hc HB hx341_0;replace hx341_1:=hc HB hx341_1;replace p341:=eq_true p341;replace q341:=eq_true q341;have p343:0≤(x10_2:Int):=od;have q343:x10_2<(l0.length:Int):=od;obtain⟨ad343,e343,hx343_0,hx343_1⟩:=at_T27 HR0.out x10_2 p343 q343;have hw343_1:=hx343_1;have hw343_0:=hx343_0;obtain rfl:ad341=ad343:=(by injection e343);replace hx343_0:=hc HB hx343_0;replace hx343_1:=hc HB hx343_1;replace p343:=eq_true p343;replace q343:=eq_true q343;have p345:0≤(x10_2:Int):=od;have q345:x10_2<(l0.length:Int):=od;obtain⟨ad345,e345,hx345_0,hx345_1⟩:=at_T27 HR0.out x10_2 p345 q345;have hw345_1:=hx345_1;have hw345_0:=hx345_0;obtain rfl:ad341=ad345:=(by injection e345);replace hx345_0:=hc HB hx345_0;replace hx345_1:=hc HB hx345_1;replace p345:=eq_true p345;replace q345:=eq_true q345;have p346:0≤((ji22):Int):=od;have q346:(ji22)<(l0.length:Int):=od;obtain⟨ad346,e346,hx346_0,hx346_1⟩:=at_T27 HR0.out (ji22) p346 q346;have hw346_1:=hx346_1;have hw346_0:=hx346_0;obtain rfl:ad341=ad346:=(by injection e346);replace hx346_0:=hc HB hx346_0;replace hx346_1:=hc HB hx346_1;replace p346:=eq_true p346;replace q346:=eq_true q346;refine start_ (n:=34) (S:=fun w'=>w'.cell? (ad341.add ((x10_2).toNat*2))=some (.int .i64 ((rd_T27 l0 x10_2).f0))∧w'.cell? ⟨(ad341.add ((x10_2).toNat*2)).block,(ad341.add ((x10_2).toNat*2)).off+1,none⟩=some (.int .i64 ((rd_T27 l0 x10_2).f1))∧w'.cell? (ad341.add ((x10_2).toNat*2))=some (.int .i64 ((rd_T27 l0 x10_2).f0))∧w'.cell? ⟨(ad341.add ((x10_2).toNat*2)).block,(ad341.add ((x10_2).toNat*2)).off+1,none⟩=some (.int .i64 ((rd_T27 l0 x10_2).f1))∧w'.cell? (ad341.add ((x10_2).toNat*2))=some (.int .i64 ((rd_T27 l0 x10_2).f0))∧w'.cell? ⟨(ad341.add ((x10_2).toNat*2)).block,(ad341.add ((x10_2).toNat*2)).off+1,none⟩=some (.int .i64 ((rd_T27 l0 x10_2).f1))∧w'.cell? (ad341.add (((ji22)).toNat*2))=some (.int .i64 ((rd_T27 l0 (ji22)).f0))∧w'.cell? ⟨(ad341.add (((ji22)).toNat*2)).block,(ad341.add (((ji22)).toNat*2)).off+1,none⟩=some (.int .i64 ((rd_T27 l0 (ji22)).f1))) (ds:=[]) _ (by kernel_rfl) rfl rfl ⟨((HB.out.cell (World.block_lt_of_cell? w _ hw341_0)).trans hw341_0),((HB.out.cell (World.block_lt_of_cell? w _ hw341_1)).trans hw341_1),((HB.out.cell (World.block_lt_of_cell? w _ hw343_0)).trans hw343_0),((HB.out.cell (World.block_lt_of_cell? w _ hw343_1)).trans hw343_1),((HB.out.cell (World.block_lt_of_cell? w _ hw345_0)).trans hw345_0),((HB.out.cell (World.block_lt_of_cell? w _ hw345_1)).trans hw345_1),((HB.out.cell (World.block_lt_of_cell? w _ hw346_0)).trans hw346_0),((HB.out.cell (World.block_lt_of_cell? w _ hw346_1)).trans hw346_1)⟩ (fun hH=>?_);refine with_tabW glidepathtop_TopCloudLayers.tab10 glidepathtop_TopCloudLayers.bits10 (fun HT_ HW_=>?_);generalize wr.drew=w25 at HO_7 HO_8 HO_9 HB hx341_0 hx341_1 hx343_0 hx343_1 hx345_0 hx345_1 hx346_0 hx346_1 hH ⊢;refine pZ 0 (some 53) (bs 34 1) HT_ ?_;refine pZ 1 (some 54) (bs 34 3) HT_ ?_;refine pZ 2 (some 55) (bs 34 7) HT_ ?_;refine pZ 3 (some 56) (bs 34 15) HT_ ?_;refine takeZ 4 (some 57) (bs 34 31) (tw HT_ HW_) hH ?_;refine oneZ 5 (some 58) (bs 34 63) (o1 HT_) fun K hK=>?_;refine gz Try.func5 #[.int .i64 ((rd_T27 l0 x10_2).f0),.int .i64 0,.int .i64 100] ?_
                              with_reducible refine(Bs_Within.calls ((rd_T27 l0 x10_2).f0) 0 100 true _ A17.out).mono ?_
                              rintro e w' ⟨rfl,⟨nd,rfl⟩⟩;refine⟨_,rfl,?_⟩;refine hK.out _ _ ⟨((HB.out.cell (World.block_lt_of_cell? w _ hw341_0)).trans hw341_0),((HB.out.cell (World.block_lt_of_cell? w _ hw341_1)).trans hw341_1),((HB.out.cell (World.block_lt_of_cell? w _ hw343_0)).trans hw343_0),((HB.out.cell (World.block_lt_of_cell? w _ hw343_1)).trans hw343_1),((HB.out.cell (World.block_lt_of_cell? w _ hw345_0)).trans hw345_0),((HB.out.cell (World.block_lt_of_cell? w _ hw345_1)).trans hw345_1),((HB.out.cell (World.block_lt_of_cell? w _ hw346_0)).trans hw346_0),((HB.out.cell (World.block_lt_of_cell? w _ hw346_1)).trans hw346_1)⟩ (fun hH=>?_);clear hK K;refine nz 58 ?_;refine pZ 6 (some 59) (bs 34 127) HT_ ?_;refine pZ 7 (some 60) (bs 34 255) HT_ ?_;refine pZ 8 (some 61) (bs 34 511) HT_ ?_;refine pZ 9 (some 62) (bs 34 1023) HT_ ?_;refine pZ 10 (some 63) (bs 34 2047) HT_ ?_;refine pZ 11 (some 64) (bs 34 4095) HT_ ?_;refine takeZ 12 (some 65) (bs 34 8191) (tw HT_ HW_) hH ?_;refine oneZ 13 (some 66) (bs 34 16383) (o1 HT_) fun K hK=>?_;refine gz Try.func5 #[.int .i64 ((rd_T27 l0 x10_2).f1),.int .i64 1,.int .i64 4] ?_
                              with_reducible refine(Bs_Within.calls ((rd_T27 l0 x10_2).f1) 1 4 true _ A19.out).mono ?_
                              rintro e w' ⟨rfl,⟨nd,rfl⟩⟩;refine⟨_,rfl,?_⟩;refine hK.out _ _ ⟨((HB.out.cell (World.block_lt_of_cell? w _ hw341_0)).trans hw341_0),((HB.out.cell (World.block_lt_of_cell? w _ hw341_1)).trans hw341_1),((HB.out.cell (World.block_lt_of_cell? w _ hw343_0)).trans hw343_0),((HB.out.cell (World.block_lt_of_cell? w _ hw343_1)).trans hw343_1),((HB.out.cell (World.block_lt_of_cell? w _ hw345_0)).trans hw345_0),((HB.out.cell (World.block_lt_of_cell? w _ hw345_1)).trans hw345_1),((HB.out.cell (World.block_lt_of_cell? w _ hw346_0)).trans hw346_0),((HB.out.cell (World.block_lt_of_cell? w _ hw346_1)).trans hw346_1)⟩ (fun hH=>?_);clear hK K;refine nz 66 ?_;refine pZ 14 (some 67) (bs 34 32767) HT_ ?_;refine pZ 15 (some 68) (bs 34 65535) HT_ ?_;refine pZ 16 (some 69) (bs 34 131071) HT_ ?_;refine pZ 17 (some 70) (bs 34 262143) HT_ ?_;refine pZ 18 (some 71) (bs 34 524287) HT_ ?_;refine pZ 19 (some 72) (bs 34 1048575) HT_ ?_;refine pZ 20 (some 73) (bs 34 2097151) HT_ ?_;refine pZ 21 (some 74) (bs 34 4194303) HT_ ?_;refine pZ 22 (some 75) (bs 34 8388607) HT_ ?_;refine pZ 23 (some 76) (bs 34 16777215) HT_ ?_;refine pZ 25 (some 78) (bs 34 50331647) HT_ ?_;refine pZ 26 (some 79) (bs 34 117440511) HT_ ?_;refine pZ 27 (some 80) (bs 34 251658239) HT_ ?_;refine pZ 28 (some 81) (bs 34 520093695) HT_ ?_;refine pZ 29 (some 82) (bs 34 1056964607) HT_ ?_;refine takeZ 24 (some 77) (bs 34 1073741823) (tw HT_ HW_) hH ?_;refine takeZ 30 (some 83) (bs 34 2147483647) (tw HT_ HW_) hH ?_;refine pZ 31 (some 84) (bs 34 4294967295) HT_ ?_;refine pZ 32 (some 85) (bs 34 8589934591) HT_ ?_;refine pZ 33 (some 86) (bs 34 17179869183) HT_ ?_;refine done_ (done_of HT_.out (by kernel_rfl)) ?_
                              try go_wp2
                              go_meet
                              case rel=>exact⟨_,((((rd_T27 l0 x10_2).f0)==((rd_T27 l0 (ji22)).f0))),(by first|rfl|(simp;done)|(simp only[← hji22]<;>(first|rfl|simp))|(simp[*];done)),H',⟨by have:=HJ5.out;have:=HK2.out;first|omega|exact Nat.le_refl _⟩,⟨br HO_7.out⟩,⟨br HO_8.out⟩,⟨br HO_9.out⟩,⟨bz⟩⟩
                            · rw[if_neg c24]at H;exact absurd H (by simp)
                          · rw[if_neg c23]at H;exact absurd H (by simp)
                        · skip
                          as_aux_lemma=>
                          rw[if_neg c21]at H;have c21b0:=decide_eq_false c21;clear c21;have H':=m0 H;clear H
                          try go_wp2
                          replace HO_7:=m0 (Kd.R_drew HO_7.out);replace HO_8:=m0 (Kd.R_drew HO_8.out);replace HO_9:=m0 (Kd.R_drew HO_9.out);replace HB:=sd HB;have p341:0≤(x10_2:Int):=od;have q341:x10_2<(l0.length:Int):=od;obtain⟨ad341,e341,hx341_0,hx341_1⟩:=at_T27 HR0.out x10_2 p341 q341;have hw341_1:=hx341_1;have hw341_0:=hx341_0
                          cases e341
                          replace hx341_0:=hc HB hx341_0;replace hx341_1:=hc HB hx341_1;replace p341:=eq_true p341;replace q341:=eq_true q341;have p343:0≤(x10_2:Int):=od;have q343:x10_2<(l0.length:Int):=od;obtain⟨ad343,e343,hx343_0,hx343_1⟩:=at_T27 HR0.out x10_2 p343 q343;have hw343_1:=hx343_1;have hw343_0:=hx343_0;obtain rfl:ad341=ad343:=(by injection e343);replace hx343_0:=hc HB hx343_0;replace hx343_1:=hc HB hx343_1;replace p343:=eq_true p343;replace q343:=eq_true q343;refine start_ (n:=34) (S:=fun w'=>w'.cell? (ad341.add ((x10_2).toNat*2))=some (.int .i64 ((rd_T27 l0 x10_2).f0))∧w'.cell? ⟨(ad341.add ((x10_2).toNat*2)).block,(ad341.add ((x10_2).toNat*2)).off+1,none⟩=some (.int .i64 ((rd_T27 l0 x10_2).f1))∧w'.cell? (ad341.add ((x10_2).toNat*2))=some (.int .i64 ((rd_T27 l0 x10_2).f0))∧w'.cell? ⟨(ad341.add ((x10_2).toNat*2)).block,(ad341.add ((x10_2).toNat*2)).off+1,none⟩=some (.int .i64 ((rd_T27 l0 x10_2).f1))) (ds:=[]) _ (by kernel_rfl) rfl rfl ⟨((HB.out.cell (World.block_lt_of_cell? w _ hw341_0)).trans hw341_0),((HB.out.cell (World.block_lt_of_cell? w _ hw341_1)).trans hw341_1),((HB.out.cell (World.block_lt_of_cell? w _ hw343_0)).trans hw343_0),((HB.out.cell (World.block_lt_of_cell? w _ hw343_1)).trans hw343_1)⟩ (fun hH=>?_);refine with_tabW glidepathtop_TopCloudLayers.tab10 glidepathtop_TopCloudLayers.bits10 (fun HT_ HW_=>?_);generalize wr.drew=w26 at HO_7 HO_8 HO_9 HB hx341_0 hx341_1 hx343_0 hx343_1 hH ⊢;refine pZ 0 (some 53) (bs 34 1) HT_ ?_;refine pZ 1 (some 54) (bs 34 3) HT_ ?_;refine pZ 2 (some 55) (bs 34 7) HT_ ?_;refine pZ 3 (some 56) (bs 34 15) HT_ ?_;refine takeZ 4 (some 57) (bs 34 31) (tw HT_ HW_) hH ?_;refine oneZ 5 (some 58) (bs 34 63) (o1 HT_) fun K hK=>?_;refine gz Try.func5 #[.int .i64 ((rd_T27 l0 x10_2).f0),.int .i64 0,.int .i64 100] ?_
                          with_reducible refine(Bs_Within.calls ((rd_T27 l0 x10_2).f0) 0 100 true _ A17.out).mono ?_
                          rintro e w' ⟨rfl,⟨nd,rfl⟩⟩;refine⟨_,rfl,?_⟩;refine hK.out _ _ ⟨((HB.out.cell (World.block_lt_of_cell? w _ hw341_0)).trans hw341_0),((HB.out.cell (World.block_lt_of_cell? w _ hw341_1)).trans hw341_1),((HB.out.cell (World.block_lt_of_cell? w _ hw343_0)).trans hw343_0),((HB.out.cell (World.block_lt_of_cell? w _ hw343_1)).trans hw343_1)⟩ (fun hH=>?_);clear hK K;refine nz 58 ?_;refine pZ 6 (some 59) (bs 34 127) HT_ ?_;refine pZ 7 (some 60) (bs 34 255) HT_ ?_;refine pZ 8 (some 61) (bs 34 511) HT_ ?_;refine pZ 9 (some 62) (bs 34 1023) HT_ ?_;refine pZ 10 (some 63) (bs 34 2047) HT_ ?_;refine pZ 11 (some 64) (bs 34 4095) HT_ ?_;refine takeZ 12 (some 65) (bs 34 8191) (tw HT_ HW_) hH ?_;refine oneZ 13 (some 66) (bs 34 16383) (o1 HT_) fun K hK=>?_;refine gz Try.func5 #[.int .i64 ((rd_T27 l0 x10_2).f1),.int .i64 1,.int .i64 4] ?_
                          with_reducible refine(Bs_Within.calls ((rd_T27 l0 x10_2).f1) 1 4 true _ A19.out).mono ?_
                          rintro e w' ⟨rfl,⟨nd,rfl⟩⟩;refine⟨_,rfl,?_⟩;refine hK.out _ _ ⟨((HB.out.cell (World.block_lt_of_cell? w _ hw341_0)).trans hw341_0),((HB.out.cell (World.block_lt_of_cell? w _ hw341_1)).trans hw341_1),((HB.out.cell (World.block_lt_of_cell? w _ hw343_0)).trans hw343_0),((HB.out.cell (World.block_lt_of_cell? w _ hw343_1)).trans hw343_1)⟩ (fun hH=>?_);clear hK K;refine nz 66 ?_;refine pZ 14 (some 67) (bs 34 32767) HT_ ?_;refine pZ 15 (some 68) (bs 34 65535) HT_ ?_;refine pZ 16 (some 69) (bs 34 131071) HT_ ?_;refine pZ 17 (some 70) (bs 34 262143) HT_ ?_;refine pZ 18 (some 71) (bs 34 524287) HT_ ?_;refine pZ 19 (some 72) (bs 34 1048575) HT_ ?_;refine pure_ (i:=20) (N:=some 73) (v:=undef) (a':=?_) (bs 34 2097151) rfl rfl (any_of HT_.out (by kernel_rfl)) (fun _ _ _ h=>h) (Or.inr ⟨by rfl,rfl⟩) ?_ ?_;rotate_left
                          · exact pz
                          refine pure_ (i:=21) (N:=some 74) (v:=undef) (a':=?_) (bs 34 4194303) rfl rfl (any_of HT_.out (by kernel_rfl)) (fun _ _ _ h=>h) (Or.inr ⟨by rfl,rfl⟩) ?_ ?_;rotate_left
                          · exact pz
                          refine pure_ (i:=22) (N:=some 75) (v:=undef) (a':=?_) (bs 34 8388607) rfl rfl (any_of HT_.out (by kernel_rfl)) (fun _ _ _ h=>h) (Or.inr ⟨by rfl,rfl⟩) ?_ ?_;rotate_left
                          · exact pz
                          refine pure_ (i:=23) (N:=some 76) (v:=undef) (a':=?_) (bs 34 16777215) rfl rfl (any_of HT_.out (by kernel_rfl)) (fun _ _ _ h=>h) (Or.inr ⟨by rfl,rfl⟩) ?_ ?_;rotate_left
                          · exact pz
                          refine pure_ (i:=24) (N:=some 77) (v:=undef) (a':=?_) (bs 34 33554431) rfl rfl (any_of HT_.out (by kernel_rfl)) (fun _ _ _ h=>h) (Or.inr ⟨by rfl,rfl⟩) ?_ ?_;rotate_left
                          · exact pz
                          refine pure_ (i:=25) (N:=some 78) (v:=undef) (a':=?_) (bs 34 67108863) rfl rfl (any_of HT_.out (by kernel_rfl)) (fun _ _ _ h=>h) (Or.inr ⟨by rfl,rfl⟩) ?_ ?_;rotate_left
                          · exact pz
                          refine pure_ (i:=26) (N:=some 79) (v:=undef) (a':=?_) (bs 34 134217727) rfl rfl (any_of HT_.out (by kernel_rfl)) (fun _ _ _ h=>h) (Or.inr ⟨by rfl,rfl⟩) ?_ ?_;rotate_left
                          · exact pz
                          refine pure_ (i:=27) (N:=some 80) (v:=undef) (a':=?_) (bs 34 268435455) rfl rfl (any_of HT_.out (by kernel_rfl)) (fun _ _ _ h=>h) (Or.inr ⟨by rfl,rfl⟩) ?_ ?_;rotate_left
                          · exact pz
                          refine pure_ (i:=28) (N:=some 81) (v:=undef) (a':=?_) (bs 34 536870911) rfl rfl (any_of HT_.out (by kernel_rfl)) (fun _ _ _ h=>h) (Or.inr ⟨by rfl,rfl⟩) ?_ ?_;rotate_left
                          · exact pz
                          refine pure_ (i:=29) (N:=some 82) (v:=undef) (a':=?_) (bs 34 1073741823) rfl rfl (any_of HT_.out (by kernel_rfl)) (fun _ _ _ h=>h) (Or.inr ⟨by rfl,rfl⟩) ?_ ?_;rotate_left
                          · exact pz
                          refine pure_ (i:=30) (N:=some 83) (v:=undef) (a':=?_) (bs 34 2147483647) rfl rfl (any_of HT_.out (by kernel_rfl)) (fun _ _ _ h=>h) (Or.inr ⟨by rfl,rfl⟩) ?_ ?_;rotate_left
                          · exact pz
                          refine pure_ (i:=31) (N:=some 84) (v:=undef) (a':=?_) (bs 34 4294967295) rfl rfl (any_of HT_.out (by kernel_rfl)) (fun _ _ _ h=>h) (Or.inr ⟨by rfl,rfl⟩) ?_ ?_;rotate_left
                          · exact pz
                          refine pZ 32 (some 85) (bs 34 8589934591) HT_ ?_;refine pZ 33 (some 86) (bs 34 17179869183) HT_ ?_;refine done_ (done_of HT_.out (by kernel_rfl)) ?_
                          try go_wp2
                          go_meet
                          case rel=>exact⟨_,(false),rz,H',⟨by have:=HJ5.out;have:=HK2.out;first|omega|exact Nat.le_refl _⟩,⟨br HO_7.out⟩,⟨br HO_8.out⟩,⟨br HO_9.out⟩,⟨bz⟩⟩
                      · skip
                        as_aux_lemma=>
                        replace c20:=Bool.eq_false_iff.mpr c20;subst c20;rw[if_neg (show ¬ (false=true) by decide)]at H;have H':=m0 H;clear H
                        try go_wp2
                        replace HO_7:=m0 (Kd.R_drew HO_7.out);replace HO_8:=m0 (Kd.R_drew HO_8.out);replace HO_9:=m0 (Kd.R_drew HO_9.out);replace HB:=sd HB;have p341:0≤(x10_2:Int):=od;have q341:x10_2<(l0.length:Int):=od;obtain⟨ad341,e341,hx341_0,hx341_1⟩:=at_T27 HR0.out x10_2 p341 q341;have hw341_1:=hx341_1;have hw341_0:=hx341_0
                        cases e341
                        replace hx341_0:=hc HB hx341_0;replace hx341_1:=hc HB hx341_1;replace p341:=eq_true p341;replace q341:=eq_true q341;have p343:0≤(x10_2:Int):=od;have q343:x10_2<(l0.length:Int):=od;obtain⟨ad343,e343,hx343_0,hx343_1⟩:=at_T27 HR0.out x10_2 p343 q343;have hw343_1:=hx343_1;have hw343_0:=hx343_0;obtain rfl:ad341=ad343:=(by injection e343);replace hx343_0:=hc HB hx343_0;replace hx343_1:=hc HB hx343_1;replace p343:=eq_true p343;replace q343:=eq_true q343;refine start_ (n:=34) (S:=fun w'=>w'.cell? (ad341.add ((x10_2).toNat*2))=some (.int .i64 ((rd_T27 l0 x10_2).f0))∧w'.cell? ⟨(ad341.add ((x10_2).toNat*2)).block,(ad341.add ((x10_2).toNat*2)).off+1,none⟩=some (.int .i64 ((rd_T27 l0 x10_2).f1))∧w'.cell? (ad341.add ((x10_2).toNat*2))=some (.int .i64 ((rd_T27 l0 x10_2).f0))∧w'.cell? ⟨(ad341.add ((x10_2).toNat*2)).block,(ad341.add ((x10_2).toNat*2)).off+1,none⟩=some (.int .i64 ((rd_T27 l0 x10_2).f1))) (ds:=[]) _ (by kernel_rfl) rfl rfl ⟨((HB.out.cell (World.block_lt_of_cell? w _ hw341_0)).trans hw341_0),((HB.out.cell (World.block_lt_of_cell? w _ hw341_1)).trans hw341_1),((HB.out.cell (World.block_lt_of_cell? w _ hw343_0)).trans hw343_0),((HB.out.cell (World.block_lt_of_cell? w _ hw343_1)).trans hw343_1)⟩ (fun hH=>?_);refine with_tabW glidepathtop_TopCloudLayers.tab10 glidepathtop_TopCloudLayers.bits10 (fun HT_ HW_=>?_);generalize wr.drew=w27 at HO_7 HO_8 HO_9 HB hx341_0 hx341_1 hx343_0 hx343_1 hH ⊢;refine pZ 0 (some 53) (bs 34 1) HT_ ?_;refine pZ 1 (some 54) (bs 34 3) HT_ ?_;refine pZ 2 (some 55) (bs 34 7) HT_ ?_;refine pZ 3 (some 56) (bs 34 15) HT_ ?_;refine takeZ 4 (some 57) (bs 34 31) (tw HT_ HW_) hH ?_;refine oneZ 5 (some 58) (bs 34 63) (o1 HT_) fun K hK=>?_;refine gz Try.func5 #[.int .i64 ((rd_T27 l0 x10_2).f0),.int .i64 0,.int .i64 100] ?_
                        with_reducible refine(Bs_Within.calls ((rd_T27 l0 x10_2).f0) 0 100 true _ A17.out).mono ?_
                        rintro e w' ⟨rfl,⟨nd,rfl⟩⟩;refine⟨_,rfl,?_⟩;refine hK.out _ _ ⟨((HB.out.cell (World.block_lt_of_cell? w _ hw341_0)).trans hw341_0),((HB.out.cell (World.block_lt_of_cell? w _ hw341_1)).trans hw341_1),((HB.out.cell (World.block_lt_of_cell? w _ hw343_0)).trans hw343_0),((HB.out.cell (World.block_lt_of_cell? w _ hw343_1)).trans hw343_1)⟩ (fun hH=>?_);clear hK K;refine nz 58 ?_;refine pZ 6 (some 59) (bs 34 127) HT_ ?_;refine pZ 7 (some 60) (bs 34 255) HT_ ?_;refine pZ 8 (some 61) (bs 34 511) HT_ ?_;refine pZ 9 (some 62) (bs 34 1023) HT_ ?_;refine pZ 10 (some 63) (bs 34 2047) HT_ ?_;refine pZ 11 (some 64) (bs 34 4095) HT_ ?_;refine takeZ 12 (some 65) (bs 34 8191) (tw HT_ HW_) hH ?_;refine oneZ 13 (some 66) (bs 34 16383) (o1 HT_) fun K hK=>?_;refine gz Try.func5 #[.int .i64 ((rd_T27 l0 x10_2).f1),.int .i64 1,.int .i64 4] ?_
                        with_reducible refine(Bs_Within.calls ((rd_T27 l0 x10_2).f1) 1 4 false _ A19.out).mono ?_
                        rintro e w' ⟨rfl,⟨nd,rfl⟩⟩;refine⟨_,rfl,?_⟩;refine hK.out _ _ ⟨((HB.out.cell (World.block_lt_of_cell? w _ hw341_0)).trans hw341_0),((HB.out.cell (World.block_lt_of_cell? w _ hw341_1)).trans hw341_1),((HB.out.cell (World.block_lt_of_cell? w _ hw343_0)).trans hw343_0),((HB.out.cell (World.block_lt_of_cell? w _ hw343_1)).trans hw343_1)⟩ (fun hH=>?_);clear hK K;refine nz 66 ?_;refine pZ 14 (some 67) (bs 34 32767) HT_ ?_;refine pZ 15 (some 68) (bs 34 65535) HT_ ?_;refine pZ 16 (some 69) (bs 34 131071) HT_ ?_;refine pure_ (i:=17) (N:=some 70) (v:=undef) (a':=?_) (bs 34 262143) rfl rfl (any_of HT_.out (by kernel_rfl)) (fun _ _ _ h=>h) (Or.inr ⟨by rfl,rfl⟩) ?_ ?_;rotate_left
                        · exact pz
                        refine pure_ (i:=18) (N:=some 71) (v:=undef) (a':=?_) (bs 34 524287) rfl rfl (any_of HT_.out (by kernel_rfl)) (fun _ _ _ h=>h) (Or.inr ⟨by rfl,rfl⟩) ?_ ?_;rotate_left
                        · exact pz
                        refine pure_ (i:=19) (N:=some 72) (v:=undef) (a':=?_) (bs 34 1048575) rfl rfl (any_of HT_.out (by kernel_rfl)) (fun _ _ _ h=>h) (Or.inr ⟨by rfl,rfl⟩) ?_ ?_;rotate_left
                        · exact pz
                        refine pure_ (i:=20) (N:=some 73) (v:=undef) (a':=?_) (bs 34 2097151) rfl rfl (any_of HT_.out (by kernel_rfl)) (fun _ _ _ h=>h) (Or.inr ⟨by rfl,rfl⟩) ?_ ?_;rotate_left
                        · exact pz
                        refine pure_ (i:=21) (N:=some 74) (v:=undef) (a':=?_) (bs 34 4194303) rfl rfl (any_of HT_.out (by kernel_rfl)) (fun _ _ _ h=>h) (Or.inr ⟨by rfl,rfl⟩) ?_ ?_;rotate_left
                        · exact pz
                        refine pure_ (i:=22) (N:=some 75) (v:=undef) (a':=?_) (bs 34 8388607) rfl rfl (any_of HT_.out (by kernel_rfl)) (fun _ _ _ h=>h) (Or.inr ⟨by rfl,rfl⟩) ?_ ?_;rotate_left
                        · exact pz
                        refine pure_ (i:=23) (N:=some 76) (v:=undef) (a':=?_) (bs 34 16777215) rfl rfl (any_of HT_.out (by kernel_rfl)) (fun _ _ _ h=>h) (Or.inr ⟨by rfl,rfl⟩) ?_ ?_;rotate_left
                        · exact pz
                        refine pure_ (i:=24) (N:=some 77) (v:=undef) (a':=?_) (bs 34 33554431) rfl rfl (any_of HT_.out (by kernel_rfl)) (fun _ _ _ h=>h) (Or.inr ⟨by rfl,rfl⟩) ?_ ?_;rotate_left
                        · exact pz
                        refine pure_ (i:=25) (N:=some 78) (v:=undef) (a':=?_) (bs 34 67108863) rfl rfl (any_of HT_.out (by kernel_rfl)) (fun _ _ _ h=>h) (Or.inr ⟨by rfl,rfl⟩) ?_ ?_;rotate_left
                        · exact pz
                        refine pure_ (i:=26) (N:=some 79) (v:=undef) (a':=?_) (bs 34 134217727) rfl rfl (any_of HT_.out (by kernel_rfl)) (fun _ _ _ h=>h) (Or.inr ⟨by rfl,rfl⟩) ?_ ?_;rotate_left
                        · exact pz
                        refine pure_ (i:=27) (N:=some 80) (v:=undef) (a':=?_) (bs 34 268435455) rfl rfl (any_of HT_.out (by kernel_rfl)) (fun _ _ _ h=>h) (Or.inr ⟨by rfl,rfl⟩) ?_ ?_;rotate_left
                        · exact pz
                        refine pure_ (i:=28) (N:=some 81) (v:=undef) (a':=?_) (bs 34 536870911) rfl rfl (any_of HT_.out (by kernel_rfl)) (fun _ _ _ h=>h) (Or.inr ⟨by rfl,rfl⟩) ?_ ?_;rotate_left
                        · exact pz
                        refine pure_ (i:=29) (N:=some 82) (v:=undef) (a':=?_) (bs 34 1073741823) rfl rfl (any_of HT_.out (by kernel_rfl)) (fun _ _ _ h=>h) (Or.inr ⟨by rfl,rfl⟩) ?_ ?_;rotate_left
                        · exact pz
                        refine pure_ (i:=30) (N:=some 83) (v:=undef) (a':=?_) (bs 34 2147483647) rfl rfl (any_of HT_.out (by kernel_rfl)) (fun _ _ _ h=>h) (Or.inr ⟨by rfl,rfl⟩) ?_ ?_;rotate_left
                        · exact pz
                        refine pure_ (i:=31) (N:=some 84) (v:=undef) (a':=?_) (bs 34 4294967295) rfl rfl (any_of HT_.out (by kernel_rfl)) (fun _ _ _ h=>h) (Or.inr ⟨by rfl,rfl⟩) ?_ ?_;rotate_left
                        · exact pz
                        refine pure_ (i:=32) (N:=some 85) (v:=undef) (a':=?_) (bs 34 8589934591) rfl rfl (any_of HT_.out (by kernel_rfl)) (fun _ _ _ h=>h) (Or.inr ⟨by rfl,rfl⟩) ?_ ?_;rotate_left
                        · exact pz
                        refine pZ 33 (some 86) (bs 34 17179869183) HT_ ?_;refine done_ (done_of HT_.out (by kernel_rfl)) ?_
                        try go_wp2
                        go_meet
                        case rel=>exact⟨_,(true),rz,H',⟨by have:=HJ5.out;have:=HK2.out;first|omega|exact Nat.le_refl _⟩,⟨br HO_7.out⟩,⟨br HO_8.out⟩,⟨br HO_9.out⟩,⟨bz⟩⟩
                    · skip
                      as_aux_lemma=>
                      replace c18:=Bool.eq_false_iff.mpr c18;subst c18;rw[if_neg (show ¬ (false=true) by decide)]at H;have H':=m0 H;clear H
                      try go_wp2
                      replace HO_7:=m0 (Kd.R_drew HO_7.out);replace HO_8:=m0 (Kd.R_drew HO_8.out);replace HO_9:=m0 (Kd.R_drew HO_9.out);replace HB:=sd HB;have p341:0≤(x10_2:Int):=od;have q341:x10_2<(l0.length:Int):=od;obtain⟨ad341,e341,hx341_0,hx341_1⟩:=at_T27 HR0.out x10_2 p341 q341;have hw341_1:=hx341_1;have hw341_0:=hx341_0
                      cases e341
                      replace hx341_0:=hc HB hx341_0;replace hx341_1:=hc HB hx341_1;replace p341:=eq_true p341;replace q341:=eq_true q341;refine start_ (n:=34) (S:=fun w'=>w'.cell? (ad341.add ((x10_2).toNat*2))=some (.int .i64 ((rd_T27 l0 x10_2).f0))∧w'.cell? ⟨(ad341.add ((x10_2).toNat*2)).block,(ad341.add ((x10_2).toNat*2)).off+1,none⟩=some (.int .i64 ((rd_T27 l0 x10_2).f1))) (ds:=[]) _ (by kernel_rfl) rfl rfl ⟨((HB.out.cell (World.block_lt_of_cell? w _ hw341_0)).trans hw341_0),((HB.out.cell (World.block_lt_of_cell? w _ hw341_1)).trans hw341_1)⟩ (fun hH=>?_);refine with_tabW glidepathtop_TopCloudLayers.tab10 glidepathtop_TopCloudLayers.bits10 (fun HT_ HW_=>?_);generalize wr.drew=w28 at HO_7 HO_8 HO_9 HB hx341_0 hx341_1 hH ⊢;refine pZ 0 (some 53) (bs 34 1) HT_ ?_;refine pZ 1 (some 54) (bs 34 3) HT_ ?_;refine pZ 2 (some 55) (bs 34 7) HT_ ?_;refine pZ 3 (some 56) (bs 34 15) HT_ ?_;refine takeZ 4 (some 57) (bs 34 31) (tw HT_ HW_) hH ?_;refine oneZ 5 (some 58) (bs 34 63) (o1 HT_) fun K hK=>?_;refine gz Try.func5 #[.int .i64 ((rd_T27 l0 x10_2).f0),.int .i64 0,.int .i64 100] ?_
                      with_reducible refine(Bs_Within.calls ((rd_T27 l0 x10_2).f0) 0 100 false _ A17.out).mono ?_
                      rintro e w' ⟨rfl,⟨nd,rfl⟩⟩;refine⟨_,rfl,?_⟩;refine hK.out _ _ ⟨((HB.out.cell (World.block_lt_of_cell? w _ hw341_0)).trans hw341_0),((HB.out.cell (World.block_lt_of_cell? w _ hw341_1)).trans hw341_1)⟩ (fun hH=>?_);clear hK K;refine nz 58 ?_;refine pZ 6 (some 59) (bs 34 127) HT_ ?_;refine pZ 7 (some 60) (bs 34 255) HT_ ?_;refine pure_ (i:=8) (N:=some 61) (v:=undef) (a':=?_) (bs 34 511) rfl rfl (any_of HT_.out (by kernel_rfl)) (fun _ _ _ h=>h) (Or.inr ⟨by rfl,rfl⟩) ?_ ?_;rotate_left
                      · exact pz
                      refine pure_ (i:=9) (N:=some 62) (v:=undef) (a':=?_) (bs 34 1023) rfl rfl (any_of HT_.out (by kernel_rfl)) (fun _ _ _ h=>h) (Or.inr ⟨by rfl,rfl⟩) ?_ ?_;rotate_left
                      · exact pz
                      refine pure_ (i:=10) (N:=some 63) (v:=undef) (a':=?_) (bs 34 2047) rfl rfl (any_of HT_.out (by kernel_rfl)) (fun _ _ _ h=>h) (Or.inr ⟨by rfl,rfl⟩) ?_ ?_;rotate_left
                      · exact pz
                      refine pure_ (i:=11) (N:=some 64) (v:=undef) (a':=?_) (bs 34 4095) rfl rfl (any_of HT_.out (by kernel_rfl)) (fun _ _ _ h=>h) (Or.inr ⟨by rfl,rfl⟩) ?_ ?_;rotate_left
                      · exact pz
                      refine pure_ (i:=12) (N:=some 65) (v:=undef) (a':=?_) (bs 34 8191) rfl rfl (any_of HT_.out (by kernel_rfl)) (fun _ _ _ h=>h) (Or.inr ⟨by rfl,rfl⟩) ?_ ?_;rotate_left
                      · exact pz
                      refine pure_ (i:=13) (N:=some 66) (v:=undef) (a':=?_) (bs 34 16383) rfl rfl (any_of HT_.out (by kernel_rfl)) (fun _ _ _ h=>h) (Or.inr ⟨by rfl,rfl⟩) ?_ ?_;rotate_left
                      · exact pz
                      refine pure_ (i:=14) (N:=some 67) (v:=undef) (a':=?_) (bs 34 32767) rfl rfl (any_of HT_.out (by kernel_rfl)) (fun _ _ _ h=>h) (Or.inr ⟨by rfl,rfl⟩) ?_ ?_;rotate_left
                      · exact pz
                      refine pZ 15 (some 68) (bs 34 65535) HT_ ?_;refine pZ 16 (some 69) (bs 34 131071) HT_ ?_;refine pure_ (i:=17) (N:=some 70) (v:=undef) (a':=?_) (bs 34 262143) rfl rfl (any_of HT_.out (by kernel_rfl)) (fun _ _ _ h=>h) (Or.inr ⟨by rfl,rfl⟩) ?_ ?_;rotate_left
                      · exact pz
                      refine pure_ (i:=18) (N:=some 71) (v:=undef) (a':=?_) (bs 34 524287) rfl rfl (any_of HT_.out (by kernel_rfl)) (fun _ _ _ h=>h) (Or.inr ⟨by rfl,rfl⟩) ?_ ?_;rotate_left
                      · exact pz
                      refine pure_ (i:=19) (N:=some 72) (v:=undef) (a':=?_) (bs 34 1048575) rfl rfl (any_of HT_.out (by kernel_rfl)) (fun _ _ _ h=>h) (Or.inr ⟨by rfl,rfl⟩) ?_ ?_;rotate_left
                      · exact pz
                      refine pure_ (i:=20) (N:=some 73) (v:=undef) (a':=?_) (bs 34 2097151) rfl rfl (any_of HT_.out (by kernel_rfl)) (fun _ _ _ h=>h) (Or.inr ⟨by rfl,rfl⟩) ?_ ?_;rotate_left
                      · exact pz
                      refine pure_ (i:=21) (N:=some 74) (v:=undef) (a':=?_) (bs 34 4194303) rfl rfl (any_of HT_.out (by kernel_rfl)) (fun _ _ _ h=>h) (Or.inr ⟨by rfl,rfl⟩) ?_ ?_;rotate_left
                      · exact pz
                      refine pure_ (i:=22) (N:=some 75) (v:=undef) (a':=?_) (bs 34 8388607) rfl rfl (any_of HT_.out (by kernel_rfl)) (fun _ _ _ h=>h) (Or.inr ⟨by rfl,rfl⟩) ?_ ?_;rotate_left
                      · exact pz
                      refine pure_ (i:=23) (N:=some 76) (v:=undef) (a':=?_) (bs 34 16777215) rfl rfl (any_of HT_.out (by kernel_rfl)) (fun _ _ _ h=>h) (Or.inr ⟨by rfl,rfl⟩) ?_ ?_;rotate_left
                      · exact pz
                      refine pure_ (i:=24) (N:=some 77) (v:=undef) (a':=?_) (bs 34 33554431) rfl rfl (any_of HT_.out (by kernel_rfl)) (fun _ _ _ h=>h) (Or.inr ⟨by rfl,rfl⟩) ?_ ?_;rotate_left
                      · exact pz
                      refine pure_ (i:=25) (N:=some 78) (v:=undef) (a':=?_) (bs 34 67108863) rfl rfl (any_of HT_.out (by kernel_rfl)) (fun _ _ _ h=>h) (Or.inr ⟨by rfl,rfl⟩) ?_ ?_;rotate_left
                      · exact pz
                      refine pure_ (i:=26) (N:=some 79) (v:=undef) (a':=?_) (bs 34 134217727) rfl rfl (any_of HT_.out (by kernel_rfl)) (fun _ _ _ h=>h) (Or.inr ⟨by rfl,rfl⟩) ?_ ?_;rotate_left
                      · exact pz
                      refine pure_ (i:=27) (N:=some 80) (v:=undef) (a':=?_) (bs 34 268435455) rfl rfl (any_of HT_.out (by kernel_rfl)) (fun _ _ _ h=>h) (Or.inr ⟨by rfl,rfl⟩) ?_ ?_;rotate_left
                      · exact pz
                      refine pure_ (i:=28) (N:=some 81) (v:=undef) (a':=?_) (bs 34 536870911) rfl rfl (any_of HT_.out (by kernel_rfl)) (fun _ _ _ h=>h) (Or.inr ⟨by rfl,rfl⟩) ?_ ?_;rotate_left
                      · exact pz
                      refine pure_ (i:=29) (N:=some 82) (v:=undef) (a':=?_) (bs 34 1073741823) rfl rfl (any_of HT_.out (by kernel_rfl)) (fun _ _ _ h=>h) (Or.inr ⟨by rfl,rfl⟩) ?_ ?_;rotate_left
                      · exact pz
                      refine pure_ (i:=30) (N:=some 83) (v:=undef) (a':=?_) (bs 34 2147483647) rfl rfl (any_of HT_.out (by kernel_rfl)) (fun _ _ _ h=>h) (Or.inr ⟨by rfl,rfl⟩) ?_ ?_;rotate_left
                      · exact pz
                      refine pure_ (i:=31) (N:=some 84) (v:=undef) (a':=?_) (bs 34 4294967295) rfl rfl (any_of HT_.out (by kernel_rfl)) (fun _ _ _ h=>h) (Or.inr ⟨by rfl,rfl⟩) ?_ ?_;rotate_left
                      · exact pz
                      refine pure_ (i:=32) (N:=some 85) (v:=undef) (a':=?_) (bs 34 8589934591) rfl rfl (any_of HT_.out (by kernel_rfl)) (fun _ _ _ h=>h) (Or.inr ⟨by rfl,rfl⟩) ?_ ?_;rotate_left
                      · exact pz
                      refine pZ 33 (some 86) (bs 34 17179869183) HT_ ?_;refine done_ (done_of HT_.out (by kernel_rfl)) ?_
                      try go_wp2
                      go_meet
                      case rel=>exact⟨_,(true),rz,H',⟨by have:=HJ5.out;have:=HK2.out;first|omega|exact Nat.le_refl _⟩,⟨br HO_7.out⟩,⟨br HO_8.out⟩,⟨br HO_9.out⟩,⟨bz⟩⟩
                  · rw[if_neg c16]at H;exact absurd H (by simp)
                case rest =>
                  clear HC15
                  try clear hx3
                  try clear hx341_0
                  try clear hx341_1
                  try clear hx343_0
                  try clear hx343_1
                  obtain⟨kq,x86_14,rfl,HA,HJ14,HO_7,HO_8,HO_9,HB⟩:=hcut
                  cases kq with
                  |zero=>exact absurd HA.out (by simp[glidepathtop_TopCloudLayers.j2])
                  | succ kj14 =>
                    have H:=HA.out;clear HA;simp only[glidepathtop_TopCloudLayers.j2]at H
                    by_cases c29:x86_14=true
                    · subst c29;rw[if_pos rfl]at H;obtain rfl:=Option.some.inj H
                      go_wp2
                      go_ret
                      exact ez
                    · replace c29 := Bool.eq_false_iff.mpr c29;subst c29;rw[if_neg (show ¬ (false=true) by decide)]at H
                      by_cases c30:x8_2.length<17592186044416
                      · rw [if_pos c30] at H;have LMc30:=m0 c30;clear c30;obtain⟨y347,hy347⟩:∃ y_:List Int,y_=(x8_2++ [(x7_2.length:Int)]):=⟨_,rfl⟩;replace H:(if 0≤x10_2 then(if x10_2<(l0.length:Int)then(if((rd_T27 l0 x10_2).f0)≥50 then(if(x9_2.length:Int)>0 then(if 0≤(wrap64 ((x9_2.length:Int)-1))then(if(wrap64 ((x9_2.length:Int)-1))<(x9_2.length:Int)then(if((rd_T29 x9_2 (wrap64 ((x9_2.length:Int)-1))).f1)=(wrap64 ((x7_2.length:Int)-1))then(glidepathtop_TopCloudLayers.j3 kj14 l0 a1 a2 x7_2 y347 (x9_2.set ((wrap64 ((x9_2.length:Int)-1)):Int).toNat (⟨(rd_T29 x9_2 (wrap64 ((x9_2.length:Int)-1))).f0,wrap64 ((wrap64 ((x7_2.length:Int)+((rd_T27 l0 x10_2).f1)))-1)⟩:S29)) x10_2)else(if x9_2.length<8796093022208 then(glidepathtop_TopCloudLayers.j3 kj14 l0 a1 a2 x7_2 y347 (x9_2++ [(⟨(x7_2.length:Int),wrap64 ((wrap64 ((x7_2.length:Int)+((rd_T27 l0 x10_2).f1)))-1)⟩:S29)]) x10_2)else(none)))else(none))else(none))else(if x9_2.length<8796093022208 then(glidepathtop_TopCloudLayers.j3 kj14 l0 a1 a2 x7_2 y347 (x9_2++ [(⟨(x7_2.length:Int),wrap64 ((wrap64 ((x7_2.length:Int)+((rd_T27 l0 x10_2).f1)))-1)⟩:S29)]) x10_2)else(none)))else(glidepathtop_TopCloudLayers.j3 kj14 l0 a1 a2 x7_2 y347 x9_2 x10_2))else(none))else(none))=some r:=by first|(rw[hy347];with_reducible exact H)|(have H2_:=(Option.bind_some _ _).symm.trans H;rw[hy347];with_reducible exact H2_)|(have H2_:=(Option.bind_some _ _).symm.trans H;with_reducible exact H2_)|with_reducible exact H|(rw[hy347];exact H)|exact H
                        have Ny347:=m0 hy347;clear hy347
                        by_cases c31:0≤x10_2
                        · rw [if_pos c31] at H;have c31b0:=decide_eq_true c31;clear c31
                          by_cases c32:x10_2<(l0.length:Int)
                          · skip
                            as_aux_lemma=>
                            rw[if_pos c32]at H;have c32b0:=decide_eq_true c32;clear c32;have HC33:=m0 H;clear H;obtain⟨Ao34,co34,eo34⟩:=Kd.R_slice HO_7.out;subst eo34
                            go_upto_if 97 with (first|((with_reducible refine gate_builtin (b:= .append) (xs:= #[.tmp 87,.tmp 90]) rfl ?_);(try(refine gate_guard (by rfl) ?_;dsimp only));at_builtin;refine Kd.R_append (Kd.int .i64) (w0:=w) w.heap.size rfl (.tmp 87) (.tmp 90) 25 3 (.int .i64 0) 8 rfl Try.underlying25 info3 rfl (by decide) (by omega) u8 x8_2 (x7_2.length:Int) [.int .i64 (x7_2.length:Int)] (fun k_=>some k_≠(.slice Ao34 x7_2.length co34:Value).ownBlock) (fun _=>False) rfl rfl ?aP (fun _ hk=>hk.elim) ?aF ?aO ?aB ?aS ?aL ?_;(case aP=>exact rfl);(case aB=>exact bz);(case aF=>exact(fun k_ hk=>Kd.fresh' (Kd.R_lt (br HO_7.out)) k_ hk));(case aO=>exact(br HO_8.out));(case aS=>exact(below_size bz));(case aL=>have:=LMc30.out;omega);intro v348 w35 ho hb hg hat;rw[← Ny347.out]at ho;have n0_:=m0 (Kd.R_after (ok:=(fun _=>True)) (by(with_reducible repeat(first|apply Kd.R_alloc|apply Kd.R_drewN|apply Kd.R_drew));exact Kd.R_mono HO_7.out (fun _ hk=>⟨trivial,hk⟩)) hg hat);have n1_:=m0 (Kd.R_over' (br HO_9.out) (Kd.R_typed (br HO_8.out)) (by decide) hg);have n2_:=m0 (hb);have n3_:=m0 (ho);clear HO_7;clear HO_9;clear HB;clear HO_8;have HO_7:=n0_;have HO_9:=n1_;have HB:=n2_;have HO349:=n3_;clear n0_ n1_ n2_ n3_;clear ho hb hg hat;have p350:0≤(x10_2:Int):=od;have q350:x10_2<(l0.length:Int):=od;obtain⟨ad350,e350,hx350_0,hx350_1⟩:=at_T27 HR0.out x10_2 p350 q350;cases e350;replace hx350_0:=hc HB hx350_0;replace hx350_1:=hc HB hx350_1;replace p350:=eq_true p350;replace q350:=eq_true q350))
                            (try simp only[Act.put,List.setIfInBounds_toArray,List.set_cons_zero,List.set_cons_succ])
                            go_cut [9] (fun v9 wc=>∃ (kq:Nat) (x9_32:List (S29)),Aside0 (glidepathtop_TopCloudLayers.j3 kq l0 a1 a2 x7_2 y347 x9_32 x10_2=some r)∧Aside0 (kq≤kj14)∧Aside0 (Kd.R (Kd.int .i64) 3 wc w.heap.size (fun k_=>some k_≠(v348:Value).ownBlock) (.slice Ao34 x7_2.length co34) x7_2)∧Aside0 (Kd.R (Kd.int .i64) 3 wc w.heap.size (fun k_=>some k_≠((.slice Ao34 x7_2.length co34):Value).ownBlock) v348 y347)∧Aside0 (Kd.R k29 29 wc w.heap.size (fun _=>True) v9 x9_32)∧Aside0 (Below w.heap.size w wc))
                            case first =>
                              have H:=HC33.out;clear HC33
                              by_cases c36:((rd_T27 l0 x10_2).f0)≥50
                              · skip
                                as_aux_lemma=>
                                rw[if_pos c36]at H;have c36b0:=decide_eq_true c36;clear c36
                                (first|rw[c36b0]|(simp only[i64_w,i32_w];rw[c36b0])|skip)
                                by_cases c37:(x9_2.length:Int)>0
                                · rw [if_pos c37]at H;have c37b0:=decide_eq_true c37;have c37b1:decide (0<x9_2.length)=true:=decide_eq_true (by omega);clear c37;obtain⟨ji38,hji38⟩:∃ j_:Int,(wrap64 ((x9_2.length:Int)-1))=j_:=⟨_,rfl⟩;replace H:(if 0≤(ji38)then(if(ji38)<(x9_2.length:Int)then(if((rd_T29 x9_2 (ji38)).f1)=(wrap64 ((x7_2.length:Int)-1))then(glidepathtop_TopCloudLayers.j3 kj14 l0 a1 a2 x7_2 y347 (x9_2.set ((ji38):Int).toNat (⟨(rd_T29 x9_2 (ji38)).f0,wrap64 ((wrap64 ((x7_2.length:Int)+((rd_T27 l0 x10_2).f1)))-1)⟩:S29)) x10_2)else(if x9_2.length<8796093022208 then(glidepathtop_TopCloudLayers.j3 kj14 l0 a1 a2 x7_2 y347 (x9_2++ [(⟨(x7_2.length:Int),wrap64 ((wrap64 ((x7_2.length:Int)+((rd_T27 l0 x10_2).f1)))-1)⟩:S29)]) x10_2)else(none)))else(none))else(none))=some r:=by first|(rw[hji38]at H;exact H)|(simp only[hji38]at H ⊢;exact H)
                                  have hji38w:(IntKind.i64.wrap ((x9_2.length:Int)-1))=ji38:=(i64_w _).trans hji38
                                  by_cases c39:0≤(ji38)
                                  · rw [if_pos c39]at H;have c39b0:=decide_eq_true c39;clear c39
                                    by_cases c40:(ji38)<(x9_2.length:Int)
                                    · skip
                                      as_aux_lemma=>
                                      rw[if_pos c40]at H;have c40b0:=decide_eq_true c40;clear c40
                                      by_cases c41:((rd_T29 x9_2 (ji38)).f1)=(wrap64 ((x7_2.length:Int)-1))
                                      · skip
                                        as_aux_lemma=>
                                        rw[if_pos c41]at H;have c41b0:=beq_iff_eq.mpr c41;have c41b1:=bne_eq_false_iff_eq.mpr c41;clear c41;obtain⟨y353,hy353⟩:∃ y_:List (S29),y_=(x9_2.set ((ji38):Int).toNat (⟨(rd_T29 x9_2 (ji38)).f0,wrap64 ((wrap64 ((x7_2.length:Int)+((rd_T27 l0 x10_2).f1)))-1)⟩:S29)):=⟨_,rfl⟩;replace H:(glidepathtop_TopCloudLayers.j3 kj14 l0 a1 a2 x7_2 y347 y353 x10_2)=some r:=by first|(rw[hy353];with_reducible exact H)|(have H2_:=(Option.bind_some _ _).symm.trans H;rw[hy353];with_reducible exact H2_)|(have H2_:=(Option.bind_some _ _).symm.trans H;with_reducible exact H2_)|with_reducible exact H|(rw[hy353];exact H)|exact H
                                        have Ny353:=m0 hy353;clear hy353;have H':=m0 H;clear H;obtain⟨Ao43,co43,eo43⟩:=Kd.R_slice HO_9.out;subst eo43;have p351:0≤((ji38):Int):=od;have q351:(ji38)<(x9_2.length:Int):=od;obtain⟨ad351,e351,hx351_0,hx351_1⟩:=at_T29 (Kd.R_reads' HO_9.out).2.2 (ji38) p351 q351
                                        cases e351
                                        replace p351:=eq_true p351;replace q351:=eq_true q351;have p352:0≤(x10_2:Int):=od;have q352:x10_2<(l0.length:Int):=od;obtain⟨ad352,e352,hx352_0,hx352_1⟩:=at_T27 HR0.out x10_2 p352 q352;obtain rfl:ad350=ad352:=(by injection e352);replace hx352_0:=hc HB hx352_0;replace hx352_1:=hc HB hx352_1;replace p352:=eq_true p352;replace q352:=eq_true q352;have p42:0≤((ji38):Int):=od;have q42:((ji38):Int)<((x9_2.length:Int):Int):=od;obtain⟨go42,co42,eo42,gb42,gl42,cl42,HG42⟩:=Kd.R_form HO_9.out (by omega)
                                        (first|cases eo42|(injection eo42 with ea_ en_ ec_;(first|subst ea_|(injection ea_ with ea_;subst ea_));subst ec_;clear en_))
                                        have GB42:=m0 gb42;have GG42:=m0 HG42;clear gb42 gl42 HG42
                                        (first|simp only[add_plain]at hx351_0|skip)
                                        (first|simp only[add_plain]at hx351_1|skip)
                                        obtain⟨ce42,hcl42,hM42,hcc42,hfr42⟩:=Kd.R_elem HO_9.out z29 ((ji38):Int) p42 q42;obtain rfl:=k29_openM hM42;have hx42_0:w35.cell? ⟨go42,((ji38):Int).toNat*2,none⟩=some (.int .i64 ((rd_T29 x9_2 (ji38)).f0)):=hcc42 0 _ rfl;have hx42_1:w35.cell? ⟨go42,((ji38):Int).toNat*2+1,none⟩=some (.int .i64 ((rd_T29 x9_2 (ji38)).f1)):=hcc42 1 _ rfl;have hf42_0:w35.frozen? ⟨go42,((ji38):Int).toNat*2,none⟩=false:=hfr42 0;have hf42_1:w35.frozen? ⟨go42,((ji38):Int).toNat*2+1,none⟩=false:=hfr42 1;clear hcl42 hcc42 hfr42 hM42;replace p42:=eq_true p42;replace q42:=eq_true q42;have HX44:=m0 (show Kd.R k29 29 w35 w.heap.size (fun _=>True) (.slice (some ⟨go42,0,none⟩) x9_2.length co43) x9_2 from(br HO_9.out));obtain⟨ce44,hcl44,hM44,hcc44,hfr44⟩:=Kd.R_elem HX44.out z29 ((ji38):Int) (od) (by have h_:((ji38):Int)<((x9_2.length:Int):Int):=od;first|exact h_|(have e_:=(Kd.R_reads' HO_9.out).1;omega)|simpa using h_)
                                        obtain rfl:=k29_openM hM44;have HP44:=Kd.R_seg HX44.out ((ji38):Int) (od) (by have h_:((ji38):Int)<((x9_2.length:Int):Int):=od;first|exact h_|(have e_:=(Kd.R_reads' HO_9.out).1;omega)|simpa using h_) (seg:=[.int .i64 (wrap64 ((wrap64 ((x7_2.length:Int)+((rd_T27 l0 x10_2).f1)))-1))]) (j:=1) hcl44 hcc44 (show 2≤2 from by decide) (x':=(⟨(rd_T29 x9_2 (ji38)).f0,wrap64 ((wrap64 ((x7_2.length:Int)+((rd_T27 l0 x10_2).f1)))-1)⟩:S29)) (k29_mkM _ _ _ (⟨(rd_T29 x9_2 (ji38)).f0,wrap64 ((wrap64 ((x7_2.length:Int)+((rd_T27 l0 x10_2).f1)))-1)⟩:S29) ) (fun _ hk=>hk)
                                        have hx44_1:=hcc44 1 _ rfl;(try simp only[show (k29).sz=2 from rfl,Nat.mul_one,Nat.add_zero]at hx44_1);have hf44_1:=hfr44 1;(try simp only[show (k29).sz=2 from rfl,Nat.mul_one,Nat.add_zero]at hf44_1);clear hcl44 hcc44 hfr44 hM44
                                        go_wp2_with (first|((with_reducible refine gate_store (t:=3) (p:=127) rfl ?_);refine store_event (t:=3) (p:=127) (v:= ?vo_w45) (w1:=(w35.setCell ⟨go42,((ji38):Int).toNat*2+1,none⟩ (.int .i64 (wrap64 ((wrap64 ((x7_2.length:Int)+((rd_T27 l0 x10_2).f1)))-1))))) ?hg ?ho ?hn ?hr ?_;(case ho=>rfl);(case hg=>rfl);(case hn=>rfl);(case hr=>first|(go_simp;done)|(go_simp;rfl));intro w45 hw;have hg:w35.grownBy w45 (some go42):=(by rw[hw];exact HP44.2);have hp_:Kd.R k29 29 w45 w.heap.size (fun _=>True) (.slice (some ⟨go42,0,none⟩) x9_2.length co43) y353:=(by rw[hw,Ny353.out];exact HP44.1);clear HP44;replace HO_7:=m0 (Kd.R_over' (v:=(.slice (some ⟨go42,0,none⟩) x9_2.length co43)) (br HO_7.out) (Kd.R_typed HO_9.out) (by decide) hg);replace HO349:=m0 (Kd.R_over' (v:=(.slice (some ⟨go42,0,none⟩) x9_2.length co43)) (br HO349.out) (Kd.R_typed HO_9.out) (by decide) hg);replace HO_9:=m0 (hp_);replace HB:=m0 ((by rw[hw];exact below_set (HB.out) GB42.out:Below w.heap.size w w45));clear hg hw hp_))
                                        go_meet
                                        case rel=>exact⟨_,(y353),H',⟨by have:=HJ5.out;have:=HK2.out;have:=HJ14.out;first|omega|exact Nat.le_refl _⟩,⟨by (with_reducible repeat(first|apply Kd.R_alloc|apply Kd.R_drewN|apply Kd.R_drew));exact Kd.R_mono HO_7.out (fun _ hk=>hk.2)⟩,⟨br HO349.out⟩,⟨br HO_9.out⟩,⟨bz⟩⟩
                                      · rw[if_neg c41]at H;have c41b0:=beq_eq_false_iff_ne.mpr c41;have c41b1:=bne_iff_ne.mpr c41
                                        by_cases c46:x9_2.length<8796093022208
                                        · rw[if_pos c46]at H;have LMc46:=m0 c46;clear c46;obtain⟨y355,hy355⟩:∃ y_:List (S29),y_=(x9_2++ [(⟨(x7_2.length:Int),wrap64 ((wrap64 ((x7_2.length:Int)+((rd_T27 l0 x10_2).f1)))-1)⟩:S29)]):=⟨_,rfl⟩;replace H:(glidepathtop_TopCloudLayers.j3 kj14 l0 a1 a2 x7_2 y347 y355 x10_2)=some r:=by first|(rw[hy355];with_reducible exact H)|(have H2_:=(Option.bind_some _ _).symm.trans H;rw[hy355];with_reducible exact H2_)|(have H2_:=(Option.bind_some _ _).symm.trans H;with_reducible exact H2_)|with_reducible exact H|(rw[hy355];exact H)|exact H
                                          have Ny355:=m0 hy355;clear hy355;have H':=m0 H;clear H;obtain⟨Ao47,co47,eo47⟩:=Kd.R_slice HO_9.out;subst eo47;have p351:0≤((ji38):Int):=od;have q351:(ji38)<(x9_2.length:Int):=od;obtain⟨ad351,e351,hx351_0,hx351_1⟩:=at_T29 (Kd.R_reads' HO_9.out).2.2 (ji38) p351 q351
                                          cases e351
                                          replace p351:=eq_true p351;replace q351:=eq_true q351;have p354:0≤(x10_2:Int):=od;have q354:x10_2<(l0.length:Int):=od;obtain⟨ad354,e354,hx354_0,hx354_1⟩:=at_T27 HR0.out x10_2 p354 q354;obtain rfl:ad350=ad354:=(by injection e354);replace hx354_0:=hc HB hx354_0;replace hx354_1:=hc HB hx354_1;replace p354:=eq_true p354;replace q354:=eq_true q354
                                          go_wp2_with (first|((with_reducible refine gate_builtin (b:= .append) (xs:= #[.tmp 128,.tmp 141]) rfl ?_);(try(refine gate_guard (by rfl) ?_;dsimp only));at_builtin;refine Kd.R_append k29 (w0:=w) w.heap.size rfl (.tmp 128) (.tmp 141) 26 29 (.agg #[(.int .i64 0),(.int .i64 0)]) 16 rfl Try.underlying26 info29 rfl (by decide) (by omega) (.slice (some ad351) x9_2.length co47) x9_2 (⟨(x7_2.length:Int),wrap64 ((wrap64 ((x7_2.length:Int)+((rd_T27 l0 x10_2).f1)))-1)⟩:S29) [.int .i64 (x7_2.length:Int),.int .i64 (wrap64 ((wrap64 ((x7_2.length:Int)+((rd_T27 l0 x10_2).f1)))-1))] (fun _=>True) (fun _=>False) rfl rfl ?aP (fun _ hk=>hk.elim) ?aF ?aO ?aB ?aS ?aL ?_;(case aP=>exact k29_mkM _ _ _ (⟨(x7_2.length:Int),wrap64 ((wrap64 ((x7_2.length:Int)+((rd_T27 l0 x10_2).f1)))-1)⟩:S29));(case aB=>exact bz);(case aF=>exact(fun _ _=>trivial));(case aO=>exact(br HO_9.out));(case aS=>exact(below_size bz));(case aL=>have:=LMc46.out;omega);intro v356 w48 ho hb hg hat;rw[← Ny355.out]at ho;have n0_:=m0 (Kd.R_over' (br HO_7.out) (Kd.R_typed (br HO_9.out)) (by decide) hg);have n1_:=m0 (Kd.R_over' (br HO349.out) (Kd.R_typed (br HO_9.out)) (by decide) hg);have n2_:=m0 (hb);have n3_:=m0 (ho);clear HO_7;clear HO349;clear HB;clear HO_9;have HO_7:=n0_;have HO349:=n1_;have HB:=n2_;have HO357:=n3_;clear n0_ n1_ n2_ n3_;clear ho hb hg hat))
                                          go_meet
                                          case rel=>exact⟨_,(y355),H',⟨by have:=HJ5.out;have:=HK2.out;have:=HJ14.out;first|omega|exact Nat.le_refl _⟩,⟨by (with_reducible repeat(first|apply Kd.R_alloc|apply Kd.R_drewN|apply Kd.R_drew));exact Kd.R_mono HO_7.out (fun _ hk=>hk.2)⟩,⟨br HO349.out⟩,⟨br HO357.out⟩,⟨bz⟩⟩
                                        · rw[if_neg c46]at H;exact absurd H (by simp)
                                    · rw[if_neg c40]at H;exact absurd H (by simp)
                                  · rw[if_neg c39]at H;exact absurd H (by simp)
                                · rw[if_neg c37]at H;have c37b0:=decide_eq_false c37;have c37b1:decide (0<x9_2.length)=false:=decide_eq_false (by omega);clear c37
                                  by_cases c49:x9_2.length<8796093022208
                                  · rw[if_pos c49]at H;have LMc49:=m0 c49;clear c49;obtain⟨y359,hy359⟩:∃ y_:List (S29),y_=(x9_2++ [(⟨(x7_2.length:Int),wrap64 ((wrap64 ((x7_2.length:Int)+((rd_T27 l0 x10_2).f1)))-1)⟩:S29)]):=⟨_,rfl⟩;replace H:(glidepathtop_TopCloudLayers.j3 kj14 l0 a1 a2 x7_2 y347 y359 x10_2)=some r:=by first|(rw[hy359];with_reducible exact H)|(have H2_:=(Option.bind_some _ _).symm.trans H;rw[hy359];with_reducible exact H2_)|(have H2_:=(Option.bind_some _ _).symm.trans H;with_reducible exact H2_)|with_reducible exact H|(rw[hy359];exact H)|exact H
                                    have Ny359:=m0 hy359;clear hy359;have H':=m0 H;clear H;obtain⟨Ao50,co50,eo50⟩:=Kd.R_slice HO_9.out;subst eo50;have p358:0≤(x10_2:Int):=od;have q358:x10_2<(l0.length:Int):=od;obtain⟨ad358,e358,hx358_0,hx358_1⟩:=at_T27 HR0.out x10_2 p358 q358;obtain rfl:ad350=ad358:=(by injection e358);replace hx358_0:=hc HB hx358_0;replace hx358_1:=hc HB hx358_1;replace p358:=eq_true p358;replace q358:=eq_true q358
                                    go_wp2_with (first|((with_reducible refine gate_builtin (b:= .append) (xs:= #[.tmp 128,.tmp 141]) rfl ?_);(try(refine gate_guard (by rfl) ?_;dsimp only));at_builtin;refine Kd.R_append k29 (w0:=w) w.heap.size rfl (.tmp 128) (.tmp 141) 26 29 (.agg #[(.int .i64 0),(.int .i64 0)]) 16 rfl Try.underlying26 info29 rfl (by decide) (by omega) (.slice Ao50 x9_2.length co50) x9_2 (⟨(x7_2.length:Int),wrap64 ((wrap64 ((x7_2.length:Int)+((rd_T27 l0 x10_2).f1)))-1)⟩:S29) [.int .i64 (x7_2.length:Int),.int .i64 (wrap64 ((wrap64 ((x7_2.length:Int)+((rd_T27 l0 x10_2).f1)))-1))] (fun _=>True) (fun _=>False) rfl rfl ?aP (fun _ hk=>hk.elim) ?aF ?aO ?aB ?aS ?aL ?_;(case aP=>exact k29_mkM _ _ _ (⟨(x7_2.length:Int),wrap64 ((wrap64 ((x7_2.length:Int)+((rd_T27 l0 x10_2).f1)))-1)⟩:S29));(case aB=>exact bz);(case aF=>exact(fun _ _=>trivial));(case aO=>exact(br HO_9.out));(case aS=>exact(below_size bz));(case aL=>have:=LMc49.out;omega);intro v360 w51 ho hb hg hat;rw[← Ny359.out]at ho;have n0_:=m0 (Kd.R_over' (br HO_7.out) (Kd.R_typed (br HO_9.out)) (by decide) hg);have n1_:=m0 (Kd.R_over' (br HO349.out) (Kd.R_typed (br HO_9.out)) (by decide) hg);have n2_:=m0 (hb);have n3_:=m0 (ho);clear HO_7;clear HO349;clear HB;clear HO_9;have HO_7:=n0_;have HO349:=n1_;have HB:=n2_;have HO361:=n3_;clear n0_ n1_ n2_ n3_;clear ho hb hg hat))
                                    go_meet
                                    case rel=>exact⟨_,(y359),H',⟨by have:=HJ5.out;have:=HK2.out;have:=HJ14.out;first|omega|exact Nat.le_refl _⟩,⟨by (with_reducible repeat(first|apply Kd.R_alloc|apply Kd.R_drewN|apply Kd.R_drew));exact Kd.R_mono HO_7.out (fun _ hk=>hk.2)⟩,⟨br HO349.out⟩,⟨br HO361.out⟩,⟨bz⟩⟩
                                  · rw[if_neg c49]at H;exact absurd H (by simp)
                              · rw[if_neg c36]at H;have c36b0:=decide_eq_false c36;clear c36
                                (first|rw[c36b0]|(simp only[i64_w,i32_w];rw[c36b0])|skip)
                                have H':=m0 H;clear H
                                go_wp2
                                go_meet
                                case rel=>exact⟨_,(x9_2),H',⟨by have:=HJ5.out;have:=HK2.out;have:=HJ14.out;first|omega|exact Nat.le_refl _⟩,⟨by (with_reducible repeat(first|apply Kd.R_alloc|apply Kd.R_drewN|apply Kd.R_drew));exact Kd.R_mono HO_7.out (fun _ hk=>hk.2)⟩,⟨br HO349.out⟩,⟨br HO_9.out⟩,⟨bz⟩⟩
                            case rest =>
                              clear HC33
                              try clear hx3
                              try clear hx4
                              try clear hf4
                              try clear hx34
                              try clear hx35
                              try clear hx42
                              try clear hf42
                              try clear hx44
                              try clear hf44
                              try clear hx341_0
                              try clear hx341_1
                              try clear hx343_0
                              try clear hx343_1
                              try clear hx350_0
                              try clear hx350_1
                              try clear hx351_0
                              try clear hx351_1
                              try clear hx352_0
                              try clear hx352_1
                              try clear hx354_0
                              try clear hx354_1
                              try clear hx358_0
                              try clear hx358_1
                              try clear hx42_0
                              try clear hx42_1
                              try clear hx44_1
                              obtain⟨kq,x9_32,HA,HJ32,HO_7,HO_8,HO_9,HB⟩:=hcut
                              cases kq with
                              |zero=>exact absurd HA.out (by simp[glidepathtop_TopCloudLayers.j3])
                              | succ kj32 =>
                                have H:=HA.out;clear HA;simp only[glidepathtop_TopCloudLayers.j3]at H;have H':=m0 H;clear H
                                go_wp2
                                go_loopg [7,12] kj32 (fun kq v7 v12 w'=>∃ (x7_5:List Int) (x12_5:Int),v12= .int .i64 x12_5∧Aside0 (glidepathtop_TopCloudLayers.l1 kq l0 a1 a2 x7_5 y347 x9_32 x10_2 x12_5=some r)∧Aside0 (kq≤kj32)∧Aside0 (Kd.R (Kd.int .i64) 3 w' w.heap.size (fun k_=>some k_≠(v348:Value).ownBlock) v7 x7_5)∧Aside0 (Kd.R (Kd.int .i64) 3 w' w.heap.size (fun k_=>some k_≠(v7:Value).ownBlock) v348 y347)∧Aside0 (Kd.R k29 29 w' w.heap.size (fun _=>True) u9 x9_32)∧Aside0 (Below w.heap.size w w'))
                                case atStart=>exact⟨(x7_2),(0),rz,H',⟨Nat.le_refl _⟩,⟨br HO_7.out⟩,⟨br HO_8.out⟩,⟨br HO_9.out⟩,⟨bz⟩⟩
                                case round =>
                                  clear H'
                                  try clear hx3
                                  try clear hx4
                                  try clear hf4
                                  try clear hx34
                                  try clear hx35
                                  try clear hx42
                                  try clear hf42
                                  try clear hx44
                                  try clear hf44
                                  try clear hx341_0
                                  try clear hx341_1
                                  try clear hx343_0
                                  try clear hx343_1
                                  try clear hx350_0
                                  try clear hx350_1
                                  try clear hx351_0
                                  try clear hx351_1
                                  try clear hx352_0
                                  try clear hx352_1
                                  try clear hx354_0
                                  try clear hx354_1
                                  try clear hx358_0
                                  try clear hx358_1
                                  try clear hx42_0
                                  try clear hx42_1
                                  try clear hx44_1
                                  obtain⟨x7_5,x12_5,rfl,HA,HK5,HO_7,HO_8,HO_9,HB⟩:=hrel
                                  cases gk with
                                  |zero=>exact absurd HA.out (by simp[glidepathtop_TopCloudLayers.l1])
                                  | succ k5 =>
                                    have H:=HA.out;clear HA;simp only[glidepathtop_TopCloudLayers.l1]at H
                                    by_cases c52:0≤x10_2
                                    · rw [if_pos c52]at H;have c52b0:=decide_eq_true c52;clear c52
                                      by_cases c53:x10_2<(l0.length:Int)
                                      · rw [if_pos c53]at H;have c53b0:=decide_eq_true c53;clear c53
                                        by_cases c54:x12_5<((rd_T27 l0 x10_2).f1)
                                        · rw[if_pos c54]at H;have c54b0:=decide_eq_true c54;clear c54
                                          by_cases c55:x7_5.length<17592186044416
                                          · skip
                                            as_aux_lemma=>
                                            rw[if_pos c55]at H;have LMc55:=m0 c55;clear c55;obtain⟨y364,hy364⟩:∃ y_:List Int,y_=(x7_5++ [(rd_T27 l0 x10_2).f0]):=⟨_,rfl⟩;replace H:(glidepathtop_TopCloudLayers.l1 k5 l0 a1 a2 y364 y347 x9_32 x10_2 (wrap64 (x12_5+1)))=some r:=by first|(rw[hy364];with_reducible exact H)|(have H2_:=(Option.bind_some _ _).symm.trans H;rw[hy364];with_reducible exact H2_)|(have H2_:=(Option.bind_some _ _).symm.trans H;with_reducible exact H2_)|with_reducible exact H|(rw[hy364];exact H)|exact H
                                            have Ny364:=m0 hy364;clear hy364;have H':=m0 H;clear H;have p362:0≤(x10_2:Int):=od;have q362:x10_2<(l0.length:Int):=od;obtain⟨ad362,e362,hx362_0,hx362_1⟩:=at_T27 HR0.out x10_2 p362 q362;obtain rfl:ad350=ad362:=(by injection e362);replace hx362_0:=hc HB hx362_0;replace hx362_1:=hc HB hx362_1;replace p362:=eq_true p362;replace q362:=eq_true q362;have p363:0≤(x10_2:Int):=od;have q363:x10_2<(l0.length:Int):=od;obtain⟨ad363,e363,hx363_0,hx363_1⟩:=at_T27 HR0.out x10_2 p363 q363;obtain rfl:ad350=ad363:=(by injection e363);replace hx363_0:=hc HB hx363_0;replace hx363_1:=hc HB hx363_1;replace p363:=eq_true p363;replace q363:=eq_true q363
                                            go_wp2_with (first|((with_reducible refine gate_builtin (b:= .append) (xs:= #[.tmp 152,.tmp 158]) rfl ?_);(try(refine gate_guard (by rfl) ?_;dsimp only));at_builtin;refine Kd.R_append (Kd.int .i64) (w0:=w) w.heap.size rfl (.tmp 152) (.tmp 158) 25 3 (.int .i64 0) 8 rfl Try.underlying25 info3 rfl (by decide) (by omega) u7 x7_5 ((rd_T27 l0 x10_2).f0) [.int .i64 ((rd_T27 l0 x10_2).f0)] (fun k_=>some k_≠(v348:Value).ownBlock) (fun _=>False) rfl rfl ?aP (fun _ hk=>hk.elim) ?aF ?aO ?aB ?aS ?aL ?_;(case aP=>exact rfl);(case aB=>exact bz);(case aF=>exact(fun k_ hk=>Kd.fresh' (Kd.R_lt (br HO_8.out)) k_ hk));(case aO=>exact(br HO_7.out));(case aS=>exact(below_size bz));(case aL=>have:=LMc55.out;omega);intro v365 w56 ho hb hg hat;rw[← Ny364.out]at ho;have n0_:=m0 (Kd.R_after (ok:=(fun _=>True)) (by(with_reducible repeat(first|apply Kd.R_alloc|apply Kd.R_drewN|apply Kd.R_drew));exact Kd.R_mono HO_8.out (fun _ hk=>⟨trivial,hk⟩)) hg hat);have n1_:=m0 (Kd.R_over' (br HO_9.out) (Kd.R_typed (br HO_7.out)) (by decide) hg);have n2_:=m0 (hb);have n3_:=m0 (ho);clear HO_8;clear HO_9;clear HB;clear HO_7;have HO_8:=n0_;have HO_9:=n1_;have HB:=n2_;have HO366:=n3_;clear n0_ n1_ n2_ n3_;clear ho hb hg hat))
                                            go_roundg k5
                                            case measure=>have:=HJ5.out;have:=HK2.out;have:=HJ14.out;have:=HJ32.out;have:=HK5.out;omega
                                            case rel=>exact⟨(y364),(wrap64 (x12_5+1)),rz,H',⟨by have:=HJ5.out;have:=HK2.out;have:=HJ14.out;have:=HJ32.out;have:=HK5.out;omega⟩,⟨br HO366.out⟩,⟨by (with_reducible repeat(first|apply Kd.R_alloc|apply Kd.R_drewN|apply Kd.R_drew));exact Kd.R_mono HO_8.out (fun _ hk=>hk.2)⟩,⟨br HO_9.out⟩,⟨bz⟩⟩
                                          · rw[if_neg c55]at H;exact absurd H (by simp)
                                        · rw[if_neg c54]at H;have c54b0:=decide_eq_false c54;clear c54;have H':=m0 H;clear H;have p362:0≤(x10_2:Int):=od;have q362:x10_2<(l0.length:Int):=od;obtain⟨ad362,e362,hx362_0,hx362_1⟩:=at_T27 HR0.out x10_2 p362 q362;obtain rfl:ad350=ad362:=(by injection e362);replace hx362_0:=hc HB hx362_0;replace hx362_1:=hc HB hx362_1;replace p362:=eq_true p362;replace q362:=eq_true q362
                                          go_wp2
                                          go_roundg k5
                                          case measure=>have:=HJ5.out;have:=HK2.out;have:=HJ14.out;have:=HJ32.out;have:=HK5.out;omega
                                          case rel=>exact⟨(x7_5),(y347),(x9_32),(wrap64 (x10_2+1)),rz,H',⟨by have:=HJ5.out;have:=HK2.out;have:=HJ14.out;have:=HJ32.out;have:=HK5.out;omega⟩,⟨br HO_7.out⟩,⟨br HO_8.out⟩,⟨br HO_9.out⟩,⟨bz⟩⟩
                                      · rw[if_neg c53]at H;exact absurd H (by simp)
                                    · rw[if_neg c52]at H;exact absurd H (by simp)
                          · rw[if_neg c32]at H;exact absurd H (by simp)
                        · rw[if_neg c31]at H;exact absurd H (by simp)
                      · rw[if_neg c30]at H;exact absurd H (by simp)
              · skip
                as_aux_lemma=>
                rw[if_neg c14]at H;have c14b0:=decide_eq_false c14;clear c14;replace H:=oa H;obtain⟨t367,A57,H⟩:=H;(try dsimp only at H);replace H:=oa H;obtain⟨⟨t370,t373,t374⟩,A58,H⟩:=H;(try dsimp only at H);replace H:=oa H;obtain⟨t375,A59,H⟩:=H;(try dsimp only at H);replace H:=oa H;obtain⟨⟨t378,t381,t382⟩,A60,H⟩:=H;(try dsimp only at H);replace H:=oa H;obtain⟨t383,A61,H⟩:=H;(try dsimp only at H);replace H:=oa H;obtain⟨⟨t386,t389⟩,A62,H⟩:=H;(try dsimp only at H);have HC63:=m0 H;clear H;obtain⟨Ao64,co64,eo64⟩:=Kd.R_slice HO_7.out;subst eo64
                go_upto_region 25 with (first|((with_reducible refine gc 7 rfl ?_);refine gl (some 162) Try.func7 #[.slice Ao64 x7_2.length co64] ?_;(with_reducible refine(Bs_CopyInts.calls _ _ x7_2 t367 _ ?side1 ?side2 A57.out).mono ?_);(case side1=>exact bc (Kd.R_reads' HO_7.out).2.2);(case side2=>exact(Kd.R_reads' HO_7.out).2.1);rintro e w65 ⟨v368,rfl,ho0,hb⟩;refine⟨_,rfl,?_⟩;replace HO_9:=rb HO_9 hb;have HO369:=m0 (Kd.R_lower (Kd.R_new' (Kd.R_new' ho0 (Kd.R_lt (br HO_7.out))) (Kd.R_lt (br HO_8.out))) (below_size bz));replace HO_7:=m0 (Kd.R_elder' (br HO_7.out) (Kd.R_base ho0) hb);replace HO_8:=m0 (Kd.R_elder' (br HO_8.out) (Kd.R_base ho0) hb);replace HB:=sb HB hb;(try clear hb);(try clear ho0);obtain⟨Ao66,co66,eo66⟩:=Kd.R_slice HO369.out;subst eo66)|((with_reducible refine gc 6 rfl ?_);refine gl (some 163) Try.func6 #[.slice Ao66 t367.length co66,.int .i64 0] ?_;(with_reducible refine(L_SegmentsOf.calls k2 (fun k_=>some k_=(.slice Ao66 t367.length co66:Value).ownBlock) _ _ t367 0 t370 t373 t374 _ ?side1 A58.out).mono ?_);(case side1=>exact Kd.R_V (Kd.R_tight rfl (Kd.R_apart' (HO369.out) (Kd.R_typed HO_9.out) (by decide))));rintro e w67 ⟨v371,rfl,ho0,hb⟩;refine⟨_,rfl,?_⟩;have HO372:=hv w (fun k_=>some k_≠(.slice Ao64 x7_2.length co64:Value).ownBlock∧some k_≠(u8:Value).ownBlock∧some k_≠(u9:Value).ownBlock) ho0 (fun k_ hk_=>⟨Or.elim hk_ (fun hs_=>((Kd.R_apart' (HO369.out) (Kd.R_typed HO_9.out) (by decide)).1 k_ hs_.symm).1.1.2) (fun hn_=>(Kd.fresh' (Kd.R_lt (br HO_7.out)) k_ hn_)),Or.elim hk_ (fun hs_=>((Kd.R_apart' (HO369.out) (Kd.R_typed HO_9.out) (by decide)).1 k_ hs_.symm).1.2) (fun hn_=>(Kd.fresh' (Kd.R_lt (br HO_8.out)) k_ hn_)),Or.elim hk_ (fun hs_=>((Kd.R_apart' (HO369.out) (Kd.R_typed HO_9.out) (by decide)).1 k_ hs_.symm).2) (fun hn_=>(Kd.fresh' (Kd.R_lt (br HO_9.out)) k_ hn_))⟩);replace HO_7:=rb HO_7 hb;replace HO_8:=rb HO_8 hb;replace HO_9:=rb HO_9 hb;replace HO369:=rb HO369 hb;replace HB:=sb HB hb;(try clear hb);(try clear ho0))|((with_reducible refine gc 7 rfl ?_);refine gl (some 169) Try.func7 #[.slice Ao64 x7_2.length co64] ?_;(with_reducible refine(Bs_CopyInts.calls _ _ x7_2 t375 _ ?side1 ?side2 A59.out).mono ?_);(case side1=>exact bc (Kd.R_reads' HO_7.out).2.2);(case side2=>exact(Kd.R_reads' HO_7.out).2.1);rintro e w68 ⟨v376,rfl,ho0,hb⟩;refine⟨_,rfl,?_⟩;replace HO_9:=rb HO_9 hb;replace HO372:=m0 (Kd.V_elder' (by(with_reducible repeat(first|apply Kd.V_alloc|apply Kd.V_drewN|apply Kd.V_drew));exact HO372.out) (Kd.R_base ho0) hb);have HO377:=m0 (Kd.R_lower (Kd.R_new' (Kd.R_new' (Kd.R_new' ho0 (Kd.R_lt (br HO_7.out))) (Kd.R_lt (br HO_8.out))) (Kd.R_lt (br HO369.out))) (below_size bz));replace HO_7:=m0 (Kd.R_elder' (br HO_7.out) (Kd.R_base ho0) hb);replace HO_8:=m0 (Kd.R_elder' (br HO_8.out) (Kd.R_base ho0) hb);replace HO369:=m0 (Kd.R_elder' (br HO369.out) (Kd.R_base ho0) hb);replace HB:=sb HB hb;(try clear hb);(try clear ho0);obtain⟨Ao69,co69,eo69⟩:=Kd.R_slice HO377.out;subst eo69)|((with_reducible refine gc 6 rfl ?_);refine gl (some 171) Try.func6 #[.slice Ao69 t375.length co69,.int .i64 a1] ?_;(with_reducible refine(L_SegmentsOf.calls k2 (fun k_=>some k_=(.slice Ao69 t375.length co69:Value).ownBlock) _ _ t375 a1 t378 t381 t382 _ ?side1 A60.out).mono ?_);(case side1=>exact Kd.R_V (Kd.R_tight rfl (Kd.R_apart' (HO377.out) (Kd.R_typed HO_9.out) (by decide))));rintro e w70 ⟨v379,rfl,ho0,hb⟩;refine⟨_,rfl,?_⟩;replace HO372:=vb HO372 hb;have HO380:=hv w (fun k_=>some k_≠(.slice Ao64 x7_2.length co64:Value).ownBlock∧some k_≠(u8:Value).ownBlock∧some k_≠(u9:Value).ownBlock∧some k_≠(.slice Ao66 t367.length co66:Value).ownBlock) ho0 (fun k_ hk_=>⟨Or.elim hk_ (fun hs_=>((Kd.R_apart' (HO377.out) (Kd.R_typed HO_9.out) (by decide)).1 k_ hs_.symm).1.1.1.2) (fun hn_=>(Kd.fresh' (Kd.R_lt (br HO_7.out)) k_ hn_)),Or.elim hk_ (fun hs_=>((Kd.R_apart' (HO377.out) (Kd.R_typed HO_9.out) (by decide)).1 k_ hs_.symm).1.1.2) (fun hn_=>(Kd.fresh' (Kd.R_lt (br HO_8.out)) k_ hn_)),Or.elim hk_ (fun hs_=>((Kd.R_apart' (HO377.out) (Kd.R_typed HO_9.out) (by decide)).1 k_ hs_.symm).2) (fun hn_=>(Kd.fresh' (Kd.R_lt (br HO_9.out)) k_ hn_)),Or.elim hk_ (fun hs_=>((Kd.R_apart' (HO377.out) (Kd.R_typed HO_9.out) (by decide)).1 k_ hs_.symm).1.2) (fun hn_=>(Kd.fresh' (Kd.R_lt (br HO369.out)) k_ hn_))⟩);replace HO_7:=rb HO_7 hb;replace HO_8:=rb HO_8 hb;replace HO_9:=rb HO_9 hb;replace HO369:=rb HO369 hb;replace HO377:=rb HO377 hb;replace HB:=sb HB hb;(try clear hb);(try clear ho0))|((with_reducible refine gc 7 rfl ?_);refine gl (some 177) Try.func7 #[.slice Ao64 x7_2.length co64] ?_;(with_reducible refine(Bs_CopyInts.calls _ _ x7_2 t383 _ ?side1 ?side2 A61.out).mono ?_);(case side1=>exact bc (Kd.R_reads' HO_7.out).2.2);(case side2=>exact(Kd.R_reads' HO_7.out).2.1);rintro e w71 ⟨v384,rfl,ho0,hb⟩;refine⟨_,rfl,?_⟩;replace HO_9:=rb HO_9 hb;replace HO372:=m0 (Kd.V_elder' (by(with_reducible repeat(first|apply Kd.V_alloc|apply Kd.V_drewN|apply Kd.V_drew));exact HO372.out) (Kd.R_base ho0) hb);replace HO380:=m0 (Kd.V_elder' (by(with_reducible repeat(first|apply Kd.V_alloc|apply Kd.V_drewN|apply Kd.V_drew));exact HO380.out) (Kd.R_base ho0) hb);have HO385:=m0 (Kd.R_lower (Kd.R_new' (Kd.R_new' (Kd.R_new' (Kd.R_new' ho0 (Kd.R_lt (br HO_7.out))) (Kd.R_lt (br HO_8.out))) (Kd.R_lt (br HO369.out))) (Kd.R_lt (br HO377.out))) (below_size bz));replace HO_7:=m0 (Kd.R_elder' (br HO_7.out) (Kd.R_base ho0) hb);replace HO_8:=m0 (Kd.R_elder' (br HO_8.out) (Kd.R_base ho0) hb);replace HO369:=m0 (Kd.R_elder' (br HO369.out) (Kd.R_base ho0) hb);replace HO377:=m0 (Kd.R_elder' (br HO377.out) (Kd.R_base ho0) hb);replace HB:=sb HB hb;(try clear hb);(try clear ho0);obtain⟨Ao72,co72,eo72⟩:=Kd.R_slice HO385.out;subst eo72)|((with_reducible refine gc 8 rfl ?_);refine gl (some 179) Try.func8 #[.slice Ao72 t383.length co72,.agg #[.int .i64 50,.int .i64 0,.int .i64 1]] ?_;(with_reducible refine(L_LayersIn.calls k2 _ _ t383 50 0 1 t386 t389 _ ?side1 ?side2 A62.out).mono ?_);(case side1=>exact bc (Kd.R_reads' HO385.out).2.2);(case side2=>exact(Kd.R_reads' HO385.out).2.1);rintro e w73 ⟨v387,rfl,ho0,hb⟩;refine⟨_,rfl,?_⟩;replace HO_7:=rb HO_7 hb;replace HO_8:=rb HO_8 hb;replace HO369:=rb HO369 hb;replace HO372:=m0 (Kd.V_elder' (by(with_reducible repeat(first|apply Kd.V_alloc|apply Kd.V_drewN|apply Kd.V_drew));exact HO372.out) (Kd.R_base ho0) hb);replace HO377:=rb HO377 hb;replace HO380:=m0 (Kd.V_elder' (by(with_reducible repeat(first|apply Kd.V_alloc|apply Kd.V_drewN|apply Kd.V_drew));exact HO380.out) (Kd.R_base ho0) hb);replace HO385:=rb HO385 hb;have HO388:=m0 (Kd.R_lower (Kd.R_new' ho0 (Kd.R_lt (br HO_9.out))) (below_size bz));replace HO_9:=m0 (Kd.R_elder' (br HO_9.out) (Kd.R_base ho0) hb);replace HB:=sb HB hb;(try clear hb);(try clear ho0)))
                (try simp only[Act.put,List.setIfInBounds_toArray,List.set_cons_zero,List.set_cons_succ])
                go_cut [222] (fun v222 wc=>∃ (kq:Nat) (x222_62:Bool),v222= .bool x222_62∧Aside0 (glidepathtop_TopCloudLayers.j5 kq a2 x9_2 t386 x222_62=some r)∧Aside0 (kq≤k2)∧Aside0 (Kd.R k29 29 wc w.heap.size (fun k_=>some k_≠(v387:Value).ownBlock) u9 x9_2)∧Aside0 (Kd.R k29 29 wc w.heap.size (fun k_=>some k_≠(u9:Value).ownBlock) v387 t386)∧Aside0 (Below w.heap.size w wc))
                case first =>
                  have H:=HC63.out;clear HC63
                  by_cases c74:t374=0
                  · rw [if_pos c74]at H;have c74b0:=beq_iff_eq.mpr c74;have c74b1:=bne_eq_false_iff_eq.mpr c74;clear c74
                    (first|rw[c74b0]|(simp only[i64_w,i32_w];rw[c74b0])|skip)
                    replace H:=oa H;obtain⟨t390,A75,H⟩:=H;(try dsimp only at H)
                    by_cases c76:t390=true
                    · subst c76;rw[if_pos rfl]at H
                      by_cases c77:t373=0
                      · rw [if_pos c77]at H;have c77b0:=beq_iff_eq.mpr c77;have c77b1:=bne_eq_false_iff_eq.mpr c77;clear c77
                        by_cases c78:t382=0
                        · rw [if_pos c78]at H;have c78b0:=beq_iff_eq.mpr c78;have c78b1:=bne_eq_false_iff_eq.mpr c78;clear c78
                          by_cases c79:(t378.length:Int)>(x8_2.length:Int)
                          · rw[if_pos c79]at H;exact absurd H (by simp)
                          · rw [if_neg c79]at H;have c79b0:=decide_eq_false c79;have c79b1:decide (x8_2.length<t378.length)=false:=decide_eq_false (fun h=>c79 (Int.ofNat_lt.mpr h));clear c79
                            by_cases c80:t381>(wrap64 (a1*(x8_2.length:Int)))
                            · rw[if_pos c80]at H;exact absurd H (by simp)
                            · rw[if_neg c80]at H;have c80b0:=decide_eq_false c80;clear c80
                              by_cases c81:t389=0
                              · rw[if_pos c81]at H;have c81b0:=beq_iff_eq.mpr c81;have c81b1:=bne_eq_false_iff_eq.mpr c81;clear c81;replace H:=oa H;obtain⟨t391,A82,H⟩:=H;(try dsimp only at H);have H':=m0 H;clear H;obtain⟨Ao83,co83,eo83⟩:=Kd.V_slice HO372.out;subst eo83;obtain⟨Ao84,co84,eo84⟩:=Kd.R_slice HO_8.out;subst eo84
                                go_wp2_with (first|(go_at_call 9;(with_reducible refine(Bs_Ints.calls k2 _ _ t370 _ _ x8_2 true _ ?side1 ?side2 ?side3 ?side4 A75.out).mono ?_);(case side1=>exact bc (Kd.V_reads' HO372.out).2.2);(case side2=>exact(Kd.V_reads' HO372.out).2.1);(case side3=>exact bc (Kd.R_reads' HO_8.out).2.2);(case side4=>exact(Kd.R_reads' HO_8.out).2.1);rintro e w' ⟨rfl,⟨nd,rfl⟩⟩;obtain⟨Ao85,co85,eo85⟩:=Kd.V_slice HO380.out;subst eo85;obtain⟨Ao86,co86,eo86⟩:=Kd.R_slice HO388.out;subst eo86;obtain⟨Ao87,co87,eo87⟩:=Kd.R_slice HO_9.out;subst eo87)|(go_at_call 10;(with_reducible refine(Bs_Ranges.calls k2 _ _ t386 _ _ x9_2 t391 _ ?side1 ?side2 ?side3 ?side4 A82.out).mono ?_);(case side1=>exact bc (Kd.R_reads' HO388.out).2.2);(case side2=>exact(Kd.R_reads' HO388.out).2.1);(case side3=>exact bc (Kd.R_reads' HO_9.out).2.2);(case side4=>exact(Kd.R_reads' HO_9.out).2.1);rintro e w' ⟨rfl,⟨nd,rfl⟩⟩))
                                go_meet
                                case rel=>exact⟨_,(!t391),rz,H',⟨by have:=HJ5.out;have:=HK2.out;first|omega|exact Nat.le_refl _⟩,⟨by (with_reducible repeat(first|apply Kd.R_alloc|apply Kd.R_drewN|apply Kd.R_drew));exact Kd.R_mono HO_9.out (fun _ hk=>hk.2)⟩,⟨by (with_reducible repeat(first|apply Kd.R_alloc|apply Kd.R_drewN|apply Kd.R_drew));exact Kd.R_mono HO388.out (fun _ hk=>hk.2)⟩,⟨bz⟩⟩
                              · rw[if_neg c81]at H;exact absurd H (by simp)
                        · rw[if_neg c78]at H;exact absurd H (by simp)
                      · rw[if_neg c77]at H;exact absurd H (by simp)
                    · replace c76:=Bool.eq_false_iff.mpr c76;subst c76;rw[if_neg (show ¬ (false=true) by decide)]at H;exact absurd H (by simp)
                  · rw[if_neg c74]at H;exact absurd H (by simp)
                case rest =>
                  clear HC63
                  try clear hx3
                  try clear hx4
                  try clear hf4
                  try clear hx34
                  try clear hx35
                  try clear hx36
                  try clear hx42
                  try clear hf42
                  try clear hx44
                  try clear hf44
                  try clear hx341_0
                  try clear hx341_1
                  try clear hx343_0
                  try clear hx343_1
                  try clear hx350_0
                  try clear hx350_1
                  try clear hx351_0
                  try clear hx351_1
                  try clear hx352_0
                  try clear hx352_1
                  try clear hx354_0
                  try clear hx354_1
                  try clear hx358_0
                  try clear hx358_1
                  try clear hx362_0
                  try clear hx362_1
                  try clear hx363_0
                  try clear hx363_1
                  try clear hx42_0
                  try clear hx42_1
                  try clear hx44_1
                  obtain⟨kq,x222_62,rfl,HA,HJ62,HO_9,HO_19,HB⟩:=hcut
                  cases kq with
                  |zero=>exact absurd HA.out (by simp[glidepathtop_TopCloudLayers.j5])
                  | succ kj62 =>
                    have H:=HA.out;clear HA;simp only[glidepathtop_TopCloudLayers.j5]at H
                    by_cases c88:x222_62=true
                    · subst c88;rw[if_pos rfl]at H;exact absurd H (by simp)
                    · skip
                      as_aux_lemma=>
                      replace c88:=Bool.eq_false_iff.mpr c88;subst c88;rw[if_neg (show ¬ (false=true) by decide)]at H
                      by_cases c89:(x9_2.length:Int)=0
                      · rw[if_pos c89]at H;have c89b0:=beq_iff_eq.mpr c89;have c89b1:=bne_eq_false_iff_eq.mpr c89;clear c89;obtain rfl:=Option.some.inj H;obtain⟨Ao90,co90,eo90⟩:=Kd.R_slice HO_9.out;subst eo90
                        go_wp2
                        go_ret
                        exact ez
                      · rw [if_neg c89]at H;have c89b0:=beq_eq_false_iff_ne.mpr c89;have c89b1:=bne_iff_ne.mpr c89;have c89b2:¬ (x9_2=[]):=fun h_=>c89 (by rw[h_];rfl);have H':=m0 H;clear H;obtain⟨Ao91,co91,eo91⟩:=Kd.R_slice HO_9.out;subst eo91
                        go_wp2
                        go_loopg [21,22] kj62 (fun kq v21 v22 w'=>∃ (x21_4:List (S42)) (x22_4:Int),v22= .int .i64 x22_4∧Aside0 (glidepathtop_TopCloudLayers.l2 kq a2 x9_2 t386 x21_4 x22_4=some r)∧Aside0 (kq≤kj62)∧Aside0 (Kd.R k29 29 w' w.heap.size (fun k_=>some k_≠(v387:Value).ownBlock) (.slice Ao91 x9_2.length co91) x9_2)∧Aside0 (Kd.R k29 29 w' w.heap.size (fun k_=>some k_≠((.slice Ao91 x9_2.length co91):Value).ownBlock) v387 t386)∧Aside0 (Kd.R k42 42 w' w.heap.size (fun _=>True) v21 x21_4)∧Aside0 (Below w.heap.size w w'))
                        case atStart=>exact⟨(([]:List (S42))),(0),rz,H',⟨Nat.le_refl _⟩,⟨br HO_9.out⟩,⟨br HO_19.out⟩,⟨by first|exact Kd.R_nil _ _ _ _ _|exact Kd.N_nil _ _ _ _ _|exact Kd.V_nil _ _ _ _ _|exact Kd.Q_nil _ _ _ _ _|exact Kd.S_nil _ _ _ _ _⟩,⟨bz⟩⟩
                        case round =>
                          clear H'
                          try clear hx3
                          try clear hx4
                          try clear hf4
                          try clear hx34
                          try clear hx35
                          try clear hx36
                          try clear hx42
                          try clear hf42
                          try clear hx44
                          try clear hf44
                          try clear hx341_0
                          try clear hx341_1
                          try clear hx343_0
                          try clear hx343_1
                          try clear hx350_0
                          try clear hx350_1
                          try clear hx351_0
                          try clear hx351_1
                          try clear hx352_0
                          try clear hx352_1
                          try clear hx354_0
                          try clear hx354_1
                          try clear hx358_0
                          try clear hx358_1
                          try clear hx362_0
                          try clear hx362_1
                          try clear hx363_0
                          try clear hx363_1
                          try clear hx42_0
                          try clear hx42_1
                          try clear hx44_1
                          obtain⟨x21_4,x22_4,rfl,HA,HK4,HO_9,HO_19,HO_21,HB⟩:=hrel
                          cases gk with
                          |zero=>exact absurd HA.out (by simp[glidepathtop_TopCloudLayers.l2])
                          | succ k4 =>
                            have H:=HA.out;clear HA;simp only[glidepathtop_TopCloudLayers.l2]at H
                            by_cases c92:x22_4<(t386.length:Int)
                            · rw [if_pos c92]at H;have c92b0:=decide_eq_true c92;clear c92
                              by_cases c93:0≤x22_4
                              · rw[if_pos c93]at H;have c93b0:=decide_eq_true c93;clear c93;obtain⟨y394,hy394⟩:∃ y_:List (S42),y_=(([(⟨wrap64 (100*((rd_T29 t386 x22_4).f0)),wrap64 ((wrap64 (100*((rd_T29 t386 x22_4).f1)))+100),5⟩:S42)]:List (S42))):=⟨_,rfl⟩;replace H:(if y394.length+x21_4.length<5864062014805 then(glidepathtop_TopCloudLayers.l2 k4 a2 x9_2 t386 (y394++x21_4) (wrap64 (x22_4+1)))else(none))=some r:=by first|(rw[hy394];with_reducible exact H)|(have H2_:=(Option.bind_some _ _).symm.trans H;rw[hy394];with_reducible exact H2_)|(have H2_:=(Option.bind_some _ _).symm.trans H;with_reducible exact H2_)|with_reducible exact H|(rw[hy394];exact H)|exact H
                                have Ny394:=m0 hy394;clear hy394
                                by_cases c94:y394.length+x21_4.length<5864062014805
                                · skip
                                  as_aux_lemma=>
                                  rw[if_pos c94]at H;have LMc94:=m0 c94;clear c94;obtain⟨y397,hy397⟩:∃ y_:List (S42),y_=(y394++x21_4):=⟨_,rfl⟩;replace H:(glidepathtop_TopCloudLayers.l2 k4 a2 x9_2 t386 y397 (wrap64 (x22_4+1)))=some r:=by first|(rw[hy397];with_reducible exact H)|(have H2_:=(Option.bind_some _ _).symm.trans H;rw[hy397];with_reducible exact H2_)|(have H2_:=(Option.bind_some _ _).symm.trans H;with_reducible exact H2_)|with_reducible exact H|(rw[hy397];exact H)|exact H
                                  have Ny397:=m0 hy397;clear hy397;have H':=m0 H;clear H;obtain⟨Ao95,co95,eo95⟩:=Kd.R_slice HO_19.out;subst eo95
                                  try go_wp2
                                  replace HO_9:=m0 (Kd.R_drew HO_9.out);replace HO_19:=m0 (Kd.R_drew HO_19.out);replace HO_21:=m0 (Kd.R_drew HO_21.out);replace HB:=sd HB;have p392:0≤(x22_4:Int):=od;have q392:x22_4<(t386.length:Int):=od;obtain⟨ad392,e392,hx392_0,hx392_1⟩:=at_T29 (Kd.R_reads' HO_19.out).2.2 x22_4 p392 q392
                                  cases e392
                                  replace p392:=eq_true p392;replace q392:=eq_true q392;have p393:0≤(x22_4:Int):=od;have q393:x22_4<(t386.length:Int):=od;obtain⟨ad393,e393,hx393_0,hx393_1⟩:=at_T29 (Kd.R_reads' HO_19.out).2.2 x22_4 p393 q393;obtain rfl:ad392=ad393:=(by injection e393);replace p393:=eq_true p393;replace q393:=eq_true q393;refine start_ (n:=18) (S:=fun w'=>w'.cell? (ad392.add ((x22_4).toNat*2))=some (.int .i64 ((rd_T29 t386 x22_4).f0))∧w'.cell? ⟨(ad392.add ((x22_4).toNat*2)).block,(ad392.add ((x22_4).toNat*2)).off+1,none⟩=some (.int .i64 ((rd_T29 t386 x22_4).f1))∧w'.cell? (ad392.add ((x22_4).toNat*2))=some (.int .i64 ((rd_T29 t386 x22_4).f0))∧w'.cell? ⟨(ad392.add ((x22_4).toNat*2)).block,(ad392.add ((x22_4).toNat*2)).off+1,none⟩=some (.int .i64 ((rd_T29 t386 x22_4).f1))) (ds:=[16]) _ (by kernel_rfl) rfl rfl ⟨hx392_0,hx392_1,hx393_0,hx393_1⟩ (fun hH=>?_);refine with_tabW glidepathtop_TopCloudLayers.tab33 glidepathtop_TopCloudLayers.bits33 (fun HT_ HW_=>?_);generalize wr.drew=w96 at HO_9 HO_19 HO_21 HB hx392_0 hx392_1 hx393_0 hx393_1 hH ⊢;refine pZ 0 (some 232) (bs 18 1) HT_ ?_;refine pZ 1 (some 233) (bs 18 3) HT_ ?_;refine pZ 2 (some 234) (bs 18 7) HT_ ?_;refine pZ 3 (some 235) (bs 18 15) HT_ ?_;refine pZ 6 (some 238) (bs 18 79) HT_ ?_;refine pZ 7 (some 239) (bs 18 207) HT_ ?_;refine pZ 8 (some 240) (bs 18 463) HT_ ?_;refine pZ 9 (some 241) (bs 18 975) HT_ ?_;refine pZ 15 (some 247) (bs 18 33743) HT_ ?_;refine takeZ 4 (some 236) (bs 18 33759) (tw HT_ HW_) hH ?_;refine pZ 5 (some 237) (bs 18 33791) HT_ ?_;refine takeZ 10 (some 242) (bs 18 34815) (tw HT_ HW_) hH ?_;refine pZ 11 (some 243) (bs 18 36863) HT_ ?_;refine pZ 12 (some 244) (bs 18 40959) HT_ ?_;refine pZ 13 (some 245) (bs 18 49151) HT_ ?_;refine oneZ 14 (some 246) (bs 18 65535) (o1 HT_) fun K hK=>?_;refine Kd.R_lit_step k42 _ 42 ?hg (N:=246) ?hd (xs:=([(⟨wrap64 (100*((rd_T29 t386 x22_4).f0)),wrap64 ((wrap64 (100*((rd_T29 t386 x22_4).f1)))+100),5⟩:S42)]:List (S42))) (inner:=[.int .i64 (wrap64 (100*((rd_T29 t386 x22_4).f0))),.int .i64 (wrap64 ((wrap64 (100*((rd_T29 t386 x22_4).f1)))+100)),.int .i64 5]) (ok:=fun _=>True) (okp:=fun _=>True) ?hr ?hp (fun _ hk=>hk) trivial (Below.refl _ _) (Nat.le_refl _) (by simp) ?_;(case hd=>rfl);(case hg=>rfl);(case hr=>first|(go_simp;done)|(go_simp;rfl));(case hp=>exact(Reps.c3 (show Kd.M k42 _ _ _ (⟨wrap64 (100*((rd_T29 t386 x22_4).f0)),wrap64 ((wrap64 (100*((rd_T29 t386 x22_4).f1)))+100),5⟩:S42) [.int .i64 (wrap64 (100*((rd_T29 t386 x22_4).f0))),.int .i64 (wrap64 ((wrap64 (100*((rd_T29 t386 x22_4).f1)))+100)),.int .i64 5]from(k42_mkM _ _ _ (⟨wrap64 (100*((rd_T29 t386 x22_4).f0)),wrap64 ((wrap64 (100*((rd_T29 t386 x22_4).f1)))+100),5⟩:S42) )) (Reps.none _ _)))
                                  intro v395 w97 ho98 hb hg_ hnew_;have HS0_:=(hb.cell (World.block_lt_of_cell? _ _ (hH.1))).trans (hH.1);have HS1_:=(hb.cell (World.block_lt_of_cell? _ _ (hH.2.1))).trans (hH.2.1);have HS2_:=(hb.cell (World.block_lt_of_cell? _ _ (hH.2.2.1))).trans (hH.2.2.1);have HS3_:=(hb.cell (World.block_lt_of_cell? _ _ (hH.2.2.2))).trans (hH.2.2.2);clear hg_ hnew_
                                  (first|rw[← Ny394.out]at ho98|(simp only[Int.reduceToNat]at ho98;rw[← Ny394.out]at ho98))
                                  replace HO_9:=rb HO_9 hb;replace HO_19:=rb HO_19 hb;have HO396:=m0 (Kd.R_lower (Kd.R_new' ho98 (Kd.R_lt (br HO_21.out))) (below_size bz));replace HO_21:=m0 (Kd.R_elder' (br HO_21.out) (Kd.R_base ho98) hb);replace HB:=sb HB hb;clear hb ho98;obtain⟨Ao100,co100,eo100⟩:=Kd.R_slice HO_21.out;subst eo100;refine hK.out _ _ ⟨HS0_,HS1_,HS2_,HS3_⟩ (fun hH=>?_);clear hK K;refine nz 246 ?_;refine last_ (i:=16) (N:=some 248) (bs 18 131071) rfl rfl (o1 HT_) (by decide) (fun K hK=>?_);refine Kd.R_append_rows_step k42 (w0:=w) w.heap.size (by rfl) (.tmp 246) (.tmp 247) 40 42 (.agg #[(.int .i64 0),(.int .i64 0),(.int .i64 0)]) 24 rfl Try.underlying40 info42 rfl (by decide) (by omega) v395 y394 x21_4 _ _ _ (fun k_=>some k_≠(.slice Ao100 x21_4.length co100:Value).ownBlock) (fun _=>False) rfl rfl ?aO ?aR (fun _ _ h=>h) (fun _ h=>h.elim) ?aF ?aB ?aS ?aL ?_
                                  (case aR=>exact bc (Kd.R_reads' HO_21.out).2.2)
                                  (case aB=>exact bz)
                                  (case aF=>exact(fun k_ hk=>Kd.fresh' (Kd.R_lt (br HO_21.out)) k_ hk))
                                  (case aO=>exact(by(with_reducible repeat(first|apply Kd.R_alloc|apply Kd.R_drewN|apply Kd.R_drew));exact Kd.R_mono HO396.out (fun _ hk=>hk.2)))
                                  (case aS=>exact(below_size bz))
                                  (case aL=>have:=LMc94.out;omega)
                                  intro v398 w99 ho hb hg hat;rw[← Ny397.out]at ho;have n0_:=m0 (Kd.R_over' (br HO_9.out) (Kd.R_typed (br HO396.out)) (by decide) hg);have n1_:=m0 (Kd.R_over' (br HO_19.out) (Kd.R_typed (br HO396.out)) (by decide) hg);have n2_:=m0 (Kd.R_after (ok:=(fun _=>True)) (br HO_21.out) hg hat);have n3_:=m0 (hb);have n4_:=m0 (ho);clear HO_9;clear HO_19;clear HO_21;clear HB;clear HO396;have HO_9:=n0_;have HO_19:=n1_;have HO_21:=n2_;have HB:=n3_;have HO399:=n4_;clear n0_ n1_ n2_ n3_ n4_;clear ho hb hg hat;refine hK.out _ _ ?_;clear hK K;refine nz 248 ?_;refine pZ 17 (some 21) (bs 18 262143) HT_ ?_;refine done_ (done_of HT_.out (by kernel_rfl)) ?_
                                  try go_wp2
                                  go_roundg k4
                                  case measure=>have:=HJ5.out;have:=HK2.out;have:=HJ62.out;have:=HK4.out;omega
                                  case rel=>exact⟨(y397),(wrap64 (x22_4+1)),rz,H',⟨by have:=HJ5.out;have:=HK2.out;have:=HJ62.out;have:=HK4.out;omega⟩,⟨br HO_9.out⟩,⟨br HO_19.out⟩,⟨by (with_reducible repeat(first|apply Kd.R_alloc|apply Kd.R_drewN|apply Kd.R_drew));exact Kd.R_mono HO399.out (fun _ hk=>trivial)⟩,⟨bz⟩⟩
                                · rw[if_neg c94]at H;exact absurd H (by simp)
                              · rw[if_neg c93]at H;exact absurd H (by simp)
                            · rw [if_neg c92]at H;have c92b0:=decide_eq_false c92;clear c92;replace H:=oa H;obtain⟨⟨t400,t401⟩,A101,H⟩:=H;(try dsimp only at H);obtain⟨y402,hy402⟩:∃ y_:List Int,y_=(([t400,a2,t400]:List Int)):=⟨_,rfl⟩;replace H:((L_MiddleOf.f k4 y402).bind fun bt405=>(if t401=0 then(if 0<(x9_2.length:Int)then(if t400=(wrap64 (100*((rd_T29 x9_2 0).f0)))then(if bt405.2=0 then(some (bt405.1==t400))else(none))else(none))else(none))else(none)))=some r:=by first|(rw[hy402];with_reducible exact H)|(have H2_:=(Option.bind_some _ _).symm.trans H;rw[hy402];with_reducible exact H2_)|(have H2_:=(Option.bind_some _ _).symm.trans H;with_reducible exact H2_)|with_reducible exact H|(rw[hy402];exact H)|exact H
                              have Ny402:=m0 hy402;clear hy402;replace H:=oa H;obtain⟨⟨t405,t406⟩,A102,H⟩:=H;(try dsimp only at H)
                              by_cases c103:t401=0
                              · rw [if_pos c103]at H;have c103b0:=beq_iff_eq.mpr c103;have c103b1:=bne_eq_false_iff_eq.mpr c103;clear c103
                                by_cases c104:0<(x9_2.length:Int)
                                · rw [if_pos c104]at H;have c104b0:=decide_eq_true c104;have c104b1:decide (0<x9_2.length)=true:=decide_eq_true (by omega);clear c104
                                  by_cases c105:t400=(wrap64 (100*((rd_T29 x9_2 0).f0)))
                                  · rw[if_pos c105]at H;have c105b0:=beq_iff_eq.mpr c105;have c105b1:=bne_eq_false_iff_eq.mpr c105;clear c105
                                    by_cases c106:t406=0
                                    · skip
                                      as_aux_lemma=>
                                      rw[if_pos c106]at H;have c106b0:=beq_iff_eq.mpr c106;have c106b1:=bne_eq_false_iff_eq.mpr c106;clear c106;obtain rfl:=Option.some.inj H;obtain⟨Ao107,co107,eo107⟩:=Kd.R_slice HO_19.out;subst eo107;obtain⟨Ao108,co108,eo108⟩:=Kd.R_slice HO_21.out;subst eo108
                                      go_wp2_with (first|((with_reducible refine gc 11 rfl ?_);refine gl (some 251) Try.func11 #[.slice Ao108 x21_4.length co108,.int .i64 5] ?_;(with_reducible refine(L_CeilingOf.calls k4 _ _ x21_4 5 t400 t401 _ ?side1 ?side2 A101.out).mono ?_);(case side1=>exact bc (Kd.R_reads' HO_21.out).2.2);(case side2=>exact(Kd.R_reads' HO_21.out).2.1);rintro e w109 ⟨rfl,hb⟩;refine⟨_,rfl,?_⟩;replace HO_9:=rb HO_9 hb;replace HO_19:=rb HO_19 hb;replace HO_21:=rb HO_21 hb;replace HB:=sb HB hb;(try clear hb))|((with_reducible refine ga 258 rfl ?_);(try(refine gate_guard (by rfl) ?_;dsimp only));refine Kd.R_lit (Kd.int .i64) _ 3 ?hg (N:=258) ?hd (xs:=([t400,a2,t400]:List Int)) (inner:=[.int .i64 t400,.int .i64 a2,.int .i64 t400]) (ok:=fun _=>True) (okp:=fun _=>True) ?hr ?hp (fun _ hk=>hk) trivial (Below.refl _ _) (Nat.le_refl _) (by simp) ?_;(case hd=>rfl);(case hg=>rfl);(case hr=>first|(go_simp;done)|(go_simp;rfl));(case hp=>exact(Reps.one (ki t400) (Reps.one (ki a2) (Reps.one (ki t400) (Reps.none _ _)))));intro v403 w110 ho111 hb hg_ hnew_;clear hg_ hnew_;(first|rw[← Ny402.out]at ho111|(simp only[Int.reduceToNat]at ho111;rw[← Ny402.out]at ho111));replace HO_9:=rb HO_9 hb;replace HO_19:=rb HO_19 hb;replace HO_21:=rb HO_21 hb;have HO404:=m0 (Kd.R_lower ho111 (below_size bz));replace HB:=sb HB hb;clear hb ho111;obtain⟨Ao112,co112,eo112⟩:=Kd.R_slice HO404.out;subst eo112)|((with_reducible refine gc 12 rfl ?_);refine gl (some 259) Try.func12 #[.slice Ao112 y402.length co112] ?_;(with_reducible refine(L_MiddleOf.calls k4 _ _ y402 t405 t406 _ ?side1 ?side2 A102.out).mono ?_);(case side1=>exact bc (Kd.R_reads' HO404.out).2.2);(case side2=>exact(Kd.R_reads' HO404.out).2.1);rintro e w113 ⟨rfl,hb⟩;refine⟨_,rfl,?_⟩;replace HO_9:=rb HO_9 hb;replace HO_19:=rb HO_19 hb;replace HO_21:=rb HO_21 hb;replace HO404:=rb HO404 hb;replace HB:=sb HB hb;(try clear hb);have p407:0≤(0:Int):=(by omega);have q407:0<(x9_2.length:Int):=od;obtain⟨ad407,e407,hx407_0,hx407_1⟩:=at_T29 (Kd.R_reads' HO_9.out).2.2 0 p407 q407;cases e407;have qi407:(0<x9_2.length)=True:=eq_true (by omega);(try rw[show ((0:Int)).toNat=0 from rfl]at hx407_0);(try rw[show 0*2=0 from rfl]at hx407_0);(try rw[Addr.add_zero']at hx407_0);(try rw[show ((0:Int)).toNat=0 from rfl]at hx407_1);(try rw[show 0*2=0 from rfl]at hx407_1);(try rw[Addr.add_zero']at hx407_1);replace p407:=eq_true p407;replace q407:=eq_true q407))
                                      go_ret
                                      exact ez
                                    · rw[if_neg c106]at H;exact absurd H (by simp)
                                  · rw[if_neg c105]at H;exact absurd H (by simp)
                                · rw[if_neg c104]at H;exact absurd H (by simp)
                              · rw[if_neg c103]at H;exact absurd H (by simp)
  · replace c5:=Bool.eq_false_iff.mpr c5;subst c5;rw[if_neg (show ¬ (false=true) by decide)]at H;exact absurd H (by simp)
end Go.Proofs.Ytggiijffaifajaa.A
