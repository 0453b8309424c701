/- Walks of the program's functions (printed, made shorter), each with what it computes. -/
import Derived.Test.YteiafijbgjgiaaaGreatB14
import Derived.Test.YteiafijbgjgiaaaGreatA02
import Derived.Test.YteiafijbgjgiaaaGreatA03
namespace Go.Proofs.YteiafijbgjgiaaaGreat.A
set_option maxHeartbeats 0
set_option maxRecDepth 100000
open Go.RowKit Go.Proofs.YteiafijbgjgiaaaGreatW.PrintWords Go.Proofs.YteiafijbgjgiaaaGreatW.PrintLast Go.Proofs.YteiafijbgjgiaaaGreatW.PrintMore
attribute [local go_sem] max2_int min2_int max_two min_two max_three min_three max_four min_four
set_option linter.unusedVariables false
set_option linter.unusedSimpArgs false
attribute [local go_sem high] eqA40
mutual
def Lw_CloudApart.j0:Nat→List Int→Int→Bool→Int→Int→Int→Int→Int→Int→Option (Bool)
  |0,_,_,_,_,_,_,_,_,_=>none
  |k+1,x0,x2,x53,x464000,x464001,x464002,x464003,x464004,x464005=>if x53=true then(some true)else((Bs_CopyInts.f x0).bind fun t471=>((L_LayersIn.f k t471 x464003 x464004 x464005).bind fun bt474=>((Bs_CopyInts.f x0).bind fun t478=>((L_LayersIn.f k t478 x464003 x464004 1).bind fun bt481=>((Bs_CopyInts.f x0).bind fun t485=>((L_LayersIn.f k t485 (wrap64 (x464003-x2)) x464004 x464005).bind fun bt488=>(if bt474.2=0 then(if bt481.2=0 then(Lw_CloudApart.j1 k x0 bt474.1 bt481.1 bt488.1 (bt488.2 != 0) x464000 x464001 x464002 x464003 x464004 x464005)else(none))else(none))))))))
def Lw_CloudApart.j1:Nat→List Int→List (S40)→List (S40)→List (S40)→Bool→Int→Int→Int→Int→Int→Int→Option (Bool)
  |0,_,_,_,_,_,_,_,_,_,_,_=>none
  |k+1,x0,x9,x11,x13,x95,x464000,x464001,x464002,x464003,x464004,x464005=>if x95=true then(none)else(Lw_CloudApart.l0 k x0 x9 x11 x13 0 0 x464000 x464001 x464002 x464003 x464004 x464005)
def Lw_CloudApart.l0:Nat→List Int→List (S40)→List (S40)→List (S40)→Int→Int→Int→Int→Int→Int→Int→Int→Option (Bool)
  |0,_,_,_,_,_,_,_,_,_,_,_,_=>none
  |k+1,x0,x9,x11,x13,x15,x16,x464000,x464001,x464002,x464003,x464004,x464005=>if x16<(x11.length:Int)then(if 0≤x16 then((Bs_Within.f ((rd_T40 x11 x16).f0) 0 (wrap64 ((x0.length:Int)-1))).bind fun t493=>(if t493=true then((Bs_Within.f ((rd_T40 x11 x16).f1) ((rd_T40 x11 x16).f0) (wrap64 ((x0.length:Int)-1))).bind fun t496=>(if t496=true then(if x16>0 then(if 0≤(wrap64 (x16-1))then(if(wrap64 (x16-1))<(x11.length:Int)then(if(wrap64 ((wrap64 (((rd_T40 x11 x16).f0)-((rd_T40 x11 (wrap64 (x16-1))).f1)))-1))≤x464004 then(none)else(if 0≤((rd_T40 x11 x16).f0)then(if((rd_T40 x11 x16).f0)<(x0.length:Int)then(if(rd x0 ((rd_T40 x11 x16).f0))<x464003 then(none)else(if 0≤((rd_T40 x11 x16).f1)then(if((rd_T40 x11 x16).f1)<(x0.length:Int)then(Lw_CloudApart.j3 k x0 x9 x11 x13 x15 x16 (decide ((rd x0 ((rd_T40 x11 x16).f1))<x464003)) x464000 x464001 x464002 x464003 x464004 x464005)else(none))else(none)))else(none))else(none)))else(none))else(none))else(if 0≤((rd_T40 x11 x16).f0)then(if((rd_T40 x11 x16).f0)<(x0.length:Int)then(if(rd x0 ((rd_T40 x11 x16).f0))<x464003 then(none)else(if 0≤((rd_T40 x11 x16).f1)then(if((rd_T40 x11 x16).f1)<(x0.length:Int)then(Lw_CloudApart.j3 k x0 x9 x11 x13 x15 x16 (decide ((rd x0 ((rd_T40 x11 x16).f1))<x464003)) x464000 x464001 x464002 x464003 x464004 x464005)else(none))else(none)))else(none))else(none)))else(none)))else(none)))else(none))else(Lw_CloudApart.l2 k x0 x9 x11 x13 x15 0 x464000 x464001 x464002 x464003 x464004 x464005)
def Lw_CloudApart.j3:Nat→List Int→List (S40)→List (S40)→List (S40)→Int→Int→Bool→Int→Int→Int→Int→Int→Int→Option (Bool)
  |0,_,_,_,_,_,_,_,_,_,_,_,_,_=>none
  |k+1,x0,x9,x11,x13,x15,x16,x179,x464000,x464001,x464002,x464003,x464004,x464005=>if x179=true then(none)else(if 0≤x16 then(if x16<(x11.length:Int)then(Lw_CloudApart.l1 k x0 x9 x11 x13 x15 x16 0 ((rd_T40 x11 x16).f0) x464000 x464001 x464002 x464003 x464004 x464005)else(none))else(none))
def Lw_CloudApart.l1:Nat→List Int→List (S40)→List (S40)→List (S40)→Int→Int→Int→Int→Int→Int→Int→Int→Int→Int→Option (Bool)
  |0,_,_,_,_,_,_,_,_,_,_,_,_,_,_=>none
  |k+1,x0,x9,x11,x13,x15,x16,x17,x18,x464000,x464001,x464002,x464003,x464004,x464005=>if 0≤x16 then(if x16<(x11.length:Int)then(if x18≤((rd_T40 x11 x16).f1)then(if 0≤x18 then(if x18<(x0.length:Int)then(if(rd x0 x18)≥x464003 then(if 0>x464004 then(none)else(Lw_CloudApart.l1 k x0 x9 x11 x13 (wrap64 (x15+1)) x16 0 (wrap64 (x18+1)) x464000 x464001 x464002 x464003 x464004 x464005))else(if(wrap64 (x17+1))>x464004 then(none)else(Lw_CloudApart.l1 k x0 x9 x11 x13 x15 x16 (wrap64 (x17+1)) (wrap64 (x18+1)) x464000 x464001 x464002 x464003 x464004 x464005)))else(none))else(none))else(Lw_CloudApart.l0 k x0 x9 x11 x13 x15 (wrap64 (x16+1)) x464000 x464001 x464002 x464003 x464004 x464005))else(none))else(none)
def Lw_CloudApart.l2:Nat→List Int→List (S40)→List (S40)→List (S40)→Int→Int→Int→Int→Int→Int→Int→Int→Option (Bool)
  |0,_,_,_,_,_,_,_,_,_,_,_,_=>none
  |k+1,x0,x9,x11,x13,x15,x19,x464000,x464001,x464002,x464003,x464004,x464005=>if x19<(x0.length:Int)then(if 0≤x19 then(if(rd x0 x19)≥x464003 then(Lw_CloudApart.l2 k x0 x9 x11 x13 (wrap64 (x15-1)) (wrap64 (x19+1)) x464000 x464001 x464002 x464003 x464004 x464005)else(Lw_CloudApart.l2 k x0 x9 x11 x13 x15 (wrap64 (x19+1)) x464000 x464001 x464002 x464003 x464004 x464005))else(none))else(if x15=0 then(Lw_CloudApart.l3 k x0 x9 x11 x13 0 x464000 x464001 x464002 x464003 x464004 x464005)else(none))
def Lw_CloudApart.l3:Nat→List Int→List (S40)→List (S40)→List (S40)→Int→Int→Int→Int→Int→Int→Int→Option (Bool)
  |0,_,_,_,_,_,_,_,_,_,_,_=>none
  |k+1,x0,x9,x11,x13,x20,x464000,x464001,x464002,x464003,x464004,x464005=>if x20<(x9.length:Int)then(Lw_CloudApart.l4 k x0 x9 x11 x13 x20 false false 0 x464000 x464001 x464002 x464003 x464004 x464005)else((Rf_ConstantErr.f x464000).bind fun t519=>(if t519=0 then((Rf_PartErr.f k x464001 x464002).bind fun t520=>(if t520=0 then((Rf_Rest.f k x0 x464000 (x0.length:Int)).bind fun t521=>(Lw_CloudApart.j9 k x0 (decide (t521<0)) x464000 x464001 x464002 x464003 x464004 x464005))else(Lw_CloudApart.j9 k x0 true x464000 x464001 x464002 x464003 x464004 x464005)))else(Lw_CloudApart.j9 k x0 true x464000 x464001 x464002 x464003 x464004 x464005)))
def Lw_CloudApart.l4:Nat→List Int→List (S40)→List (S40)→List (S40)→Int→Bool→Bool→Int→Int→Int→Int→Int→Int→Int→Option (Bool)
  |0,_,_,_,_,_,_,_,_,_,_,_,_,_,_=>none
  |k+1,x0,x9,x11,x13,x20,x21,x22,x23,x464000,x464001,x464002,x464003,x464004,x464005=>if x23<(x11.length:Int)then(if x21=true then(Lw_CloudApart.l4 k x0 x9 x11 x13 x20 true x22 (wrap64 (x23+1)) x464000 x464001 x464002 x464003 x464004 x464005)else(if 0≤x20 then(if x20<(x9.length:Int)then(if 0≤x23 then(if(((rd_T40 x9 x20).f0)==((rd_T40 x11 x23).f0) && (((rd_T40 x9 x20).f1)==((rd_T40 x11 x23).f1)))=true then(Lw_CloudApart.l4 k x0 x9 x11 x13 x20 (decide ((wrap64 ((wrap64 (((rd_T40 x9 x20).f1)-((rd_T40 x9 x20).f0)))+1))≥x464005)) x22 (wrap64 (x23+1)) x464000 x464001 x464002 x464003 x464004 x464005)else(Lw_CloudApart.l4 k x0 x9 x11 x13 x20 false x22 (wrap64 (x23+1)) x464000 x464001 x464002 x464003 x464004 x464005))else(none))else(none))else(none)))else(Lw_CloudApart.l5 k x0 x9 x11 x13 x20 x21 x22 0 x464000 x464001 x464002 x464003 x464004 x464005)
def Lw_CloudApart.l5:Nat→List Int→List (S40)→List (S40)→List (S40)→Int→Bool→Bool→Int→Int→Int→Int→Int→Int→Int→Option (Bool)
  |0,_,_,_,_,_,_,_,_,_,_,_,_,_,_=>none
  |k+1,x0,x9,x11,x13,x20,x21,x22,x24,x464000,x464001,x464002,x464003,x464004,x464005=>if x24<(x13.length:Int)then(if x22=true then(Lw_CloudApart.l5 k x0 x9 x11 x13 x20 x21 true (wrap64 (x24+1)) x464000 x464001 x464002 x464003 x464004 x464005)else(if 0≤x24 then(if 0≤x20 then(if x20<(x9.length:Int)then(if((rd_T40 x13 x24).f0)≤((rd_T40 x9 x20).f0)then(Lw_CloudApart.l5 k x0 x9 x11 x13 x20 x21 (decide (((rd_T40 x9 x20).f1)≤((rd_T40 x13 x24).f1))) (wrap64 (x24+1)) x464000 x464001 x464002 x464003 x464004 x464005)else(Lw_CloudApart.l5 k x0 x9 x11 x13 x20 x21 false (wrap64 (x24+1)) x464000 x464001 x464002 x464003 x464004 x464005))else(none))else(none))else(none)))else(if x21=true then(if x22=true then(Lw_CloudApart.l3 k x0 x9 x11 x13 (wrap64 (x20+1)) x464000 x464001 x464002 x464003 x464004 x464005)else(none))else(none))
def Lw_CloudApart.j9:Nat→List Int→Bool→Int→Int→Int→Int→Int→Int→Option (Bool)
  |0,_,_,_,_,_,_,_,_=>none
  |k+1,x0,x328,x464000,x464001,x464002,x464003,x464004,x464005=>if x328=true then(some true)else((Bs_CopyInts.f x0).bind fun t522=>((L_VisibilityOf.f k t522 x464000 x464001 x464002).bind fun bt525=>((Bs_CopyInts.f x0).bind fun t527=>((L_VisibilityOf.f k t527 x464000 0 1).bind fun bt530=>(if bt525.2=0 then(if bt530.2=0 then((Bs_Within.f bt525.1 0 bt530.1).bind fun t532=>(if t532=true then(some (decide (bt530.1≤(x0.length:Int))))else(none)))else(none))else(none))))))
end
def Lw_CloudApart.f (k:Nat) (l0:List Int) (a1_0:Int) (a1_1:Int) (a1_2:Int) (a1_3:Int) (a1_4:Int) (a1_5:Int) (a2:Int):Option (Bool):=(Lw_awake.f k).bind fun t464=>(if t464=true then((Lw_few.f l0).bind fun t465=>(if t465=true then((Rf_ProfileErr.f k l0).bind fun t466=>(if t466=0 then((Rf_RuleErr.f a1_3 a1_4 a1_5).bind fun t467=>(if t467=0 then((Bs_Within.f a2 0 (wrap64 (a1_3-1))).bind fun t468=>(Lw_CloudApart.j0 k l0 a2 (!t468) a1_0 a1_1 a1_2 a1_3 a1_4 a1_5))else(Lw_CloudApart.j0 k l0 a2 true a1_0 a1_1 a1_2 a1_3 a1_4 a1_5)))else(Lw_CloudApart.j0 k l0 a2 true a1_0 a1_1 a1_2 a1_3 a1_4 a1_5)))else(Lw_CloudApart.j0 k l0 a2 true a1_0 a1_1 a1_2 a1_3 a1_4 a1_5)))else(none))
theorem Lw_CloudApart.mono_l:∀ k,(∀ y0 y1 y2 y3 y4 y5 y6 y7 y8,LeO (Lw_CloudApart.j0 k y0 y1 y2 y3 y4 y5 y6 y7 y8) (Lw_CloudApart.j0 (k+1) y0 y1 y2 y3 y4 y5 y6 y7 y8))∧(∀ y0 y1 y2 y3 y4 y5 y6 y7 y8 y9 y10,LeO (Lw_CloudApart.j1 k y0 y1 y2 y3 y4 y5 y6 y7 y8 y9 y10) (Lw_CloudApart.j1 (k+1) y0 y1 y2 y3 y4 y5 y6 y7 y8 y9 y10))∧(∀ y0 y1 y2 y3 y4 y5 y6 y7 y8 y9 y10 y11,LeO (Lw_CloudApart.l0 k y0 y1 y2 y3 y4 y5 y6 y7 y8 y9 y10 y11) (Lw_CloudApart.l0 (k+1) y0 y1 y2 y3 y4 y5 y6 y7 y8 y9 y10 y11))∧(∀ y0 y1 y2 y3 y4 y5 y6 y7 y8 y9 y10 y11 y12,LeO (Lw_CloudApart.j3 k y0 y1 y2 y3 y4 y5 y6 y7 y8 y9 y10 y11 y12) (Lw_CloudApart.j3 (k+1) y0 y1 y2 y3 y4 y5 y6 y7 y8 y9 y10 y11 y12))∧(∀ y0 y1 y2 y3 y4 y5 y6 y7 y8 y9 y10 y11 y12 y13,LeO (Lw_CloudApart.l1 k y0 y1 y2 y3 y4 y5 y6 y7 y8 y9 y10 y11 y12 y13) (Lw_CloudApart.l1 (k+1) y0 y1 y2 y3 y4 y5 y6 y7 y8 y9 y10 y11 y12 y13))∧(∀ y0 y1 y2 y3 y4 y5 y6 y7 y8 y9 y10 y11,LeO (Lw_CloudApart.l2 k y0 y1 y2 y3 y4 y5 y6 y7 y8 y9 y10 y11) (Lw_CloudApart.l2 (k+1) y0 y1 y2 y3 y4 y5 y6 y7 y8 y9 y10 y11))∧(∀ y0 y1 y2 y3 y4 y5 y6 y7 y8 y9 y10,LeO (Lw_CloudApart.l3 k y0 y1 y2 y3 y4 y5 y6 y7 y8 y9 y10) (Lw_CloudApart.l3 (k+1) y0 y1 y2 y3 y4 y5 y6 y7 y8 y9 y10))∧(∀ y0 y1 y2 y3 y4 y5 y6 y7 y8 y9 y10 y11 y12 y13,LeO (Lw_CloudApart.l4 k y0 y1 y2 y3 y4 y5 y6 y7 y8 y9 y10 y11 y12 y13) (Lw_CloudApart.l4 (k+1) y0 y1 y2 y3 y4 y5 y6 y7 y8 y9 y10 y11 y12 y13))∧(∀ y0 y1 y2 y3 y4 y5 y6 y7 y8 y9 y10 y11 y12 y13,LeO (Lw_CloudApart.l5 k y0 y1 y2 y3 y4 y5 y6 y7 y8 y9 y10 y11 y12 y13) (Lw_CloudApart.l5 (k+1) y0 y1 y2 y3 y4 y5 y6 y7 y8 y9 y10 y11 y12 y13))∧(∀ y0 y1 y2 y3 y4 y5 y6 y7,LeO (Lw_CloudApart.j9 k y0 y1 y2 y3 y4 y5 y6 y7) (Lw_CloudApart.j9 (k+1) y0 y1 y2 y3 y4 y5 y6 y7))
  |0=>⟨fun _ _ _ _ _ _ _ _ _ r h=>by simp[Lw_CloudApart.j0]at h,fun _ _ _ _ _ _ _ _ _ _ _ r h=>by simp[Lw_CloudApart.j1]at h,fun _ _ _ _ _ _ _ _ _ _ _ _ r h=>by simp[Lw_CloudApart.l0]at h,fun _ _ _ _ _ _ _ _ _ _ _ _ _ r h=>by simp[Lw_CloudApart.j3]at h,fun _ _ _ _ _ _ _ _ _ _ _ _ _ _ r h=>by simp[Lw_CloudApart.l1]at h,fun _ _ _ _ _ _ _ _ _ _ _ _ r h=>by simp[Lw_CloudApart.l2]at h,fun _ _ _ _ _ _ _ _ _ _ _ r h=>by simp[Lw_CloudApart.l3]at h,fun _ _ _ _ _ _ _ _ _ _ _ _ _ _ r h=>by simp[Lw_CloudApart.l4]at h,fun _ _ _ _ _ _ _ _ _ _ _ _ _ _ r h=>by simp[Lw_CloudApart.l5]at h,fun _ _ _ _ _ _ _ _ r h=>by simp[Lw_CloudApart.j9]at h⟩
  | k + 1=>by
    obtain⟨ih0,ih1,ih2,ih3,ih4,ih5,ih6,ih7,ih8,ih9⟩:=Lw_CloudApart.mono_l k;refine⟨?_,?_,?_,?_,?_,?_,?_,?_,?_,?_⟩
    · intro y0 y1 y2 y3 y4 y5 y6 y7 y8;unfold Lw_CloudApart.j0
      repeat' with_reducible first
        |exact ih0 ..
        |exact ih1 ..
        |exact ih2 ..
        |exact ih3 ..
        |exact ih4 ..
        |exact ih5 ..
        |exact ih6 ..
        |exact ih7 ..
        |exact ih8 ..
        |exact ih9 ..
        |exact L_LayersIn.mono ..
        |exact L_VisibilityOf.mono ..
        |exact Lw_awake.mono ..
        |exact Rf_PartErr.mono ..
        |exact Rf_ProfileErr.mono ..
        |exact Rf_Rest.mono ..
        |exact LeO.refl ..
        |exact LeO.none ..
        |refine LeO.ite ?_ ?_
        |refine LeO.bind ?_ (fun _=>?_)
    · intro y0 y1 y2 y3 y4 y5 y6 y7 y8 y9 y10;unfold Lw_CloudApart.j1
      repeat' with_reducible first
        |exact ih0 ..
        |exact ih1 ..
        |exact ih2 ..
        |exact ih3 ..
        |exact ih4 ..
        |exact ih5 ..
        |exact ih6 ..
        |exact ih7 ..
        |exact ih8 ..
        |exact ih9 ..
        |exact L_LayersIn.mono ..
        |exact L_VisibilityOf.mono ..
        |exact Lw_awake.mono ..
        |exact Rf_PartErr.mono ..
        |exact Rf_ProfileErr.mono ..
        |exact Rf_Rest.mono ..
        |exact LeO.refl ..
        |exact LeO.none ..
        |refine LeO.ite ?_ ?_
        |refine LeO.bind ?_ (fun _=>?_)
    · intro y0 y1 y2 y3 y4 y5 y6 y7 y8 y9 y10 y11;unfold Lw_CloudApart.l0
      repeat' with_reducible first
        |exact ih0 ..
        |exact ih1 ..
        |exact ih2 ..
        |exact ih3 ..
        |exact ih4 ..
        |exact ih5 ..
        |exact ih6 ..
        |exact ih7 ..
        |exact ih8 ..
        |exact ih9 ..
        |exact L_LayersIn.mono ..
        |exact L_VisibilityOf.mono ..
        |exact Lw_awake.mono ..
        |exact Rf_PartErr.mono ..
        |exact Rf_ProfileErr.mono ..
        |exact Rf_Rest.mono ..
        |exact LeO.refl ..
        |exact LeO.none ..
        |refine LeO.ite ?_ ?_
        |refine LeO.bind ?_ (fun _=>?_)
    · intro y0 y1 y2 y3 y4 y5 y6 y7 y8 y9 y10 y11 y12;unfold Lw_CloudApart.j3
      repeat' with_reducible first
        |exact ih0 ..
        |exact ih1 ..
        |exact ih2 ..
        |exact ih3 ..
        |exact ih4 ..
        |exact ih5 ..
        |exact ih6 ..
        |exact ih7 ..
        |exact ih8 ..
        |exact ih9 ..
        |exact L_LayersIn.mono ..
        |exact L_VisibilityOf.mono ..
        |exact Lw_awake.mono ..
        |exact Rf_PartErr.mono ..
        |exact Rf_ProfileErr.mono ..
        |exact Rf_Rest.mono ..
        |exact LeO.refl ..
        |exact LeO.none ..
        |refine LeO.ite ?_ ?_
        |refine LeO.bind ?_ (fun _=>?_)
    · intro y0 y1 y2 y3 y4 y5 y6 y7 y8 y9 y10 y11 y12 y13;unfold Lw_CloudApart.l1
      repeat' with_reducible first
        |exact ih0 ..
        |exact ih1 ..
        |exact ih2 ..
        |exact ih3 ..
        |exact ih4 ..
        |exact ih5 ..
        |exact ih6 ..
        |exact ih7 ..
        |exact ih8 ..
        |exact ih9 ..
        |exact L_LayersIn.mono ..
        |exact L_VisibilityOf.mono ..
        |exact Lw_awake.mono ..
        |exact Rf_PartErr.mono ..
        |exact Rf_ProfileErr.mono ..
        |exact Rf_Rest.mono ..
        |exact LeO.refl ..
        |exact LeO.none ..
        |refine LeO.ite ?_ ?_
        |refine LeO.bind ?_ (fun _=>?_)
    · intro y0 y1 y2 y3 y4 y5 y6 y7 y8 y9 y10 y11;unfold Lw_CloudApart.l2
      repeat' with_reducible first
        |exact ih0 ..
        |exact ih1 ..
        |exact ih2 ..
        |exact ih3 ..
        |exact ih4 ..
        |exact ih5 ..
        |exact ih6 ..
        |exact ih7 ..
        |exact ih8 ..
        |exact ih9 ..
        |exact L_LayersIn.mono ..
        |exact L_VisibilityOf.mono ..
        |exact Lw_awake.mono ..
        |exact Rf_PartErr.mono ..
        |exact Rf_ProfileErr.mono ..
        |exact Rf_Rest.mono ..
        |exact LeO.refl ..
        |exact LeO.none ..
        |refine LeO.ite ?_ ?_
        |refine LeO.bind ?_ (fun _=>?_)
    · intro y0 y1 y2 y3 y4 y5 y6 y7 y8 y9 y10;unfold Lw_CloudApart.l3
      repeat' with_reducible first
        |exact ih0 ..
        |exact ih1 ..
        |exact ih2 ..
        |exact ih3 ..
        |exact ih4 ..
        |exact ih5 ..
        |exact ih6 ..
        |exact ih7 ..
        |exact ih8 ..
        |exact ih9 ..
        |exact L_LayersIn.mono ..
        |exact L_VisibilityOf.mono ..
        |exact Lw_awake.mono ..
        |exact Rf_PartErr.mono ..
        |exact Rf_ProfileErr.mono ..
        |exact Rf_Rest.mono ..
        |exact LeO.refl ..
        |exact LeO.none ..
        |refine LeO.ite ?_ ?_
        |refine LeO.bind ?_ (fun _=>?_)
    · intro y0 y1 y2 y3 y4 y5 y6 y7 y8 y9 y10 y11 y12 y13;unfold Lw_CloudApart.l4
      repeat' with_reducible first
        |exact ih0 ..
        |exact ih1 ..
        |exact ih2 ..
        |exact ih3 ..
        |exact ih4 ..
        |exact ih5 ..
        |exact ih6 ..
        |exact ih7 ..
        |exact ih8 ..
        |exact ih9 ..
        |exact L_LayersIn.mono ..
        |exact L_VisibilityOf.mono ..
        |exact Lw_awake.mono ..
        |exact Rf_PartErr.mono ..
        |exact Rf_ProfileErr.mono ..
        |exact Rf_Rest.mono ..
        |exact LeO.refl ..
        |exact LeO.none ..
        |refine LeO.ite ?_ ?_
        |refine LeO.bind ?_ (fun _=>?_)
    · intro y0 y1 y2 y3 y4 y5 y6 y7 y8 y9 y10 y11 y12 y13;unfold Lw_CloudApart.l5
      repeat' with_reducible first
        |exact ih0 ..
        |exact ih1 ..
        |exact ih2 ..
        |exact ih3 ..
        |exact ih4 ..
        |exact ih5 ..
        |exact ih6 ..
        |exact ih7 ..
        |exact ih8 ..
        |exact ih9 ..
        |exact L_LayersIn.mono ..
        |exact L_VisibilityOf.mono ..
        |exact Lw_awake.mono ..
        |exact Rf_PartErr.mono ..
        |exact Rf_ProfileErr.mono ..
        |exact Rf_Rest.mono ..
        |exact LeO.refl ..
        |exact LeO.none ..
        |refine LeO.ite ?_ ?_
        |refine LeO.bind ?_ (fun _=>?_)
    · intro y0 y1 y2 y3 y4 y5 y6 y7;unfold Lw_CloudApart.j9
      repeat' with_reducible first
        |exact ih0 ..
        |exact ih1 ..
        |exact ih2 ..
        |exact ih3 ..
        |exact ih4 ..
        |exact ih5 ..
        |exact ih6 ..
        |exact ih7 ..
        |exact ih8 ..
        |exact ih9 ..
        |exact L_LayersIn.mono ..
        |exact L_VisibilityOf.mono ..
        |exact Lw_awake.mono ..
        |exact Rf_PartErr.mono ..
        |exact Rf_ProfileErr.mono ..
        |exact Rf_Rest.mono ..
        |exact LeO.refl ..
        |exact LeO.none ..
        |refine LeO.ite ?_ ?_
        |refine LeO.bind ?_ (fun _=>?_)
theorem Lw_CloudApart.mono:∀ a0 a1 a2 a3 a4 a5 a6 a7 k,LeO (Lw_CloudApart.f k a0 a1 a2 a3 a4 a5 a6 a7) (Lw_CloudApart.f (k+1) a0 a1 a2 a3 a4 a5 a6 a7):=by
  intro a0 a1 a2 a3 a4 a5 a6 a7 k;obtain⟨ih0,ih1,ih2,ih3,ih4,ih5,ih6,ih7,ih8,ih9⟩:=Lw_CloudApart.mono_l k;unfold Lw_CloudApart.f
  repeat' with_reducible first
    |exact ih0 ..
    |exact ih1 ..
    |exact ih2 ..
    |exact ih3 ..
    |exact ih4 ..
    |exact ih5 ..
    |exact ih6 ..
    |exact ih7 ..
    |exact ih8 ..
    |exact ih9 ..
    |exact L_LayersIn.mono ..
    |exact L_VisibilityOf.mono ..
    |exact Lw_awake.mono ..
    |exact Rf_PartErr.mono ..
    |exact Rf_ProfileErr.mono ..
    |exact Rf_Rest.mono ..
    |exact LeO.refl ..
    |exact LeO.none ..
    |refine LeO.ite ?_ ?_
    |refine LeO.bind ?_ (fun _=>?_)
def Lw_CloudApart.T9:Bool×List (List Nat×List Nat):=(true,[([],[]),([0],[0]),([],[]),([2],[2]),([1,3,1],[1,3]),([4],[4]),([5],[5]),([5],[5]),([6,4,0,1,2,3,4,5,6],[6]),([7,8,0,1,2,3,4,5,6,7,8],[7])])
def Lw_CloudApart.B9:List Nat:=[0,1,0,4,15,31,63,63,127,511]
theorem Lw_CloudApart.tab9:rtab .any (opsOf Tryz.f3 9)=Lw_CloudApart.T9:=by kernel_rfl
theorem Lw_CloudApart.bits9:waitsOk Lw_CloudApart.T9.2 Lw_CloudApart.B9=true:=by kernel_rfl
def Lw_CloudApart.T10:Bool×List (List Nat×List Nat):=(true,[([],[]),([0],[0]),([],[]),([1,2,1],[1,2]),([3],[3]),([4],[4]),([4],[4]),([5,3,0,1,2,3,4,5],[5]),([6,7,0,1,2,3,4,5,6,7],[6])])
def Lw_CloudApart.B10:List Nat:=[0,1,0,7,15,31,31,63,255]
theorem Lw_CloudApart.tab10:rtab .any (opsOf Tryz.f3 10)=Lw_CloudApart.T10:=by kernel_rfl
theorem Lw_CloudApart.bits10:waitsOk Lw_CloudApart.T10.2 Lw_CloudApart.B10=true:=by kernel_rfl
def Lw_CloudApart.T11:Bool×List (List Nat×List Nat):=(true,[([],[]),([0],[0]),([],[]),([1,2,1],[1,2]),([3],[3]),([4],[4]),([4],[4]),([5,3,0,1,2,3,4,5],[5]),([6,7,0,1,2,3,4,5,6,7],[6])])
def Lw_CloudApart.B11:List Nat:=[0,1,0,7,15,31,31,63,255]
theorem Lw_CloudApart.tab11:rtab .any (opsOf Tryz.f3 11)=Lw_CloudApart.T11:=by kernel_rfl
theorem Lw_CloudApart.bits11:waitsOk Lw_CloudApart.T11.2 Lw_CloudApart.B11=true:=by kernel_rfl
def Lw_CloudApart.T18:Bool×List (List Nat×List Nat):=(true,[([],[]),([],[]),([0,1],[0,1]),([2],[2]),([3],[3]),([],[]),([5],[5]),([6],[6]),([4,7],[4,7]),([8],[8]),([9,8],[9]),([10],[10]),([10],[10]),([11,12,10],[10,11,12]),([13,10],[10,13]),([14,10],[10,14]),([10],[10]),([10],[10]),([16,17,10],[10,16,17]),([18,10],[10,18]),([19,10],[10,19]),([10],[10]),([21,10],[10,21]),([22,10],[10,22]),([15,20,23,10,10],[10,15,20,23]),([24,10],[10,24]),([10,25],[10,25]),([26,24],[26]),([27],[27]),([28,27],[27,28]),([29,27,27],[27,29]),([30],[30]),([30],[30]),([31,32,30],[30,31,32]),([33,30],[30,33]),([34,30],[30,34]),([30],[30]),([30],[30]),([37,30],[30,37]),([36,38,30],[30,36,38]),([39,30],[30,39]),([40,30],[30,40]),([35,41,30],[30,35,41]),([42,30],[30,42]),([30],[30]),([44,30],[30,44]),([45,30],[30,45]),([43,46,30],[30,43,46]),([30,47,27],[27,30,47]),([27,48],[27,48]),([49,30],[49]),([50],[50]),([50],[50]),([50],[50]),([52,53,50],[50,52,53]),([54,50],[50,54]),([55,50],[50,55]),([51,56,50],[50,51,56]),([57,50],[50,57]),([50],[50]),([59,50],[50,59]),([60,50],[50,60]),([58,61,50],[50,58,61]),([50,62],[50,62]),([63,50],[63]),([64],[64]),([64],[64]),([64],[64]),([66,67,64],[64,66,67]),([68,64],[64,68]),([69,64],[64,69]),([65,70,64],[64,65,70]),([71,64],[64,71]),([64],[64]),([73,64],[64,73]),([74,64],[64,74]),([72,75,64],[64,72,75]),([64,76],[64,76])])
def Lw_CloudApart.B18:List Nat:=[0,0,3,7,15,0,32,96,255,511,1023,2047,2047,8191,16383,32767,2047,2047,198655,460799,985087,2047,2099199,6293503,16777215,33554431,67108863,134217727,268435455,536870911,1073741823,2147483647,2147483647,8589934591,17179869183,34359738367,2147483647,2147483647,139586437119,483183820799,1032939634687,2132451262463,4398046511103,8796093022207,2147483647,17594333528063,52778705616895,140737488355327,281474976710655,562949953421311,1125899906842623,2251799813685247,2251799813685247,2251799813685247,15762598695796735,33776997205278719,69805794224242687,144115188075855871,288230376151711743,2251799813685247,578712552117108735,1731634056723955711,4611686018427387903,9223372036854775807,18446744073709551615,36893488147419103231,36893488147419103231,36893488147419103231,258254417031933722623,553402322211286548479,1143698132569992200191,2361183241434822606847,4722366482869645213695,36893488147419103231,9481626453886709530623,28371092385365290385407,75557863725914323419135,151115727451828646838271]
theorem Lw_CloudApart.tab18:rtab .any (opsOf Tryz.f3 18)=Lw_CloudApart.T18:=by kernel_rfl
theorem Lw_CloudApart.bits18:waitsOk Lw_CloudApart.T18.2 Lw_CloudApart.B18=true:=by kernel_rfl
def Lw_CloudApart.T25:Bool×List (List Nat×List Nat):=(true,[([],[]),([],[]),([0,1],[0,1]),([2],[2]),([],[]),([4],[4]),([5],[5]),([3,6],[3,6])])
def Lw_CloudApart.B25:List Nat:=[0,0,3,7,0,16,48,127]
theorem Lw_CloudApart.tab25:rtab .any (opsOf Tryz.f3 25)=Lw_CloudApart.T25:=by kernel_rfl
theorem Lw_CloudApart.bits25:waitsOk Lw_CloudApart.T25.2 Lw_CloudApart.B25=true:=by kernel_rfl
def Lw_CloudApart.T32:Bool×List (List Nat×List Nat):=(true,[([],[]),([],[]),([0,1],[0,1]),([2],[2]),([],[]),([4],[4]),([5],[5]),([3,6],[3,6])])
def Lw_CloudApart.B32:List Nat:=[0,0,3,7,0,16,48,127]
theorem Lw_CloudApart.tab32:rtab .any (opsOf Tryz.f3 32)=Lw_CloudApart.T32:=by kernel_rfl
theorem Lw_CloudApart.bits32:waitsOk Lw_CloudApart.T32.2 Lw_CloudApart.B32=true:=by kernel_rfl
def Lw_CloudApart.T43:Bool×List (List Nat×List Nat):=(true,[([],[]),([0],[0]),([1],[1]),([1],[1]),([2,3,1],[1,2,3]),([4,1],[1,4]),([1],[1]),([1],[1]),([6,7,1],[1,6,7]),([8,1],[1,8]),([5,9,1],[1,5,9]),([10,1,1],[1,10]),([11],[11]),([11],[11]),([12,13,11],[11,12,13]),([14,11],[11,14]),([15,11],[11,15]),([11],[11]),([11],[11]),([17,18,11],[11,17,18]),([19,11],[11,19]),([20,11],[11,20]),([16,21,11],[11,16,21]),([22,11],[11,22]),([11],[11]),([24,11],[11,24]),([25,11],[11,25]),([23,26,11],[11,23,26]),([11,27,1],[1,11,27]),([1,28],[1,28]),([29,11,0,1,2,3,4,5,6,7,8,9,10,11,12,13,14,15,16,17,18,19,20,21,22,23,24,25,26,27,28,29],[0,29])])
def Lw_CloudApart.B43:List Nat:=[0,1,3,3,15,31,3,3,195,451,1023,2047,4095,4095,16383,32767,65535,4095,4095,397311,921599,1970175,4194303,8388607,4095,16781311,50335743,134217727,268435455,536870911,1073741823]
theorem Lw_CloudApart.tab43:rtab .any (opsOf Tryz.f3 43)=Lw_CloudApart.T43:=by kernel_rfl
theorem Lw_CloudApart.bits43:waitsOk Lw_CloudApart.T43.2 Lw_CloudApart.B43=true:=by kernel_rfl
def Lw_CloudApart.T47:Bool×List (List Nat×List Nat):=(true,[([],[]),([0],[0]),([1],[1]),([1],[1]),([2,3,1],[1,2,3]),([4,1],[1,4]),([5,1],[1,5]),([1],[1]),([1],[1]),([7,8,1],[1,7,8]),([9,1],[1,9]),([10,1],[1,10]),([6,11,1],[1,6,11]),([12,1,1],[1,12]),([13],[13]),([13],[13]),([14,15,13],[13,14,15]),([16,13],[13,16]),([17,13],[13,17]),([13],[13]),([13],[13]),([19,20,13],[13,19,20]),([21,13],[13,21]),([22,13],[13,22]),([18,23,13],[13,18,23]),([13,24,1],[1,13,24]),([1,25],[1,25]),([26,13,0,1,2,3,4,5,6,7,8,9,10,11,12,13,14,15,16,17,18,19,20,21,22,23,24,25,26],[0,26])])
def Lw_CloudApart.B47:List Nat:=[0,1,3,3,15,31,63,3,3,387,899,1923,4095,8191,16383,16383,65535,131071,262143,16383,16383,1589247,3686399,7880703,16777215,33554431,67108863,134217727]
theorem Lw_CloudApart.tab47:rtab .any (opsOf Tryz.f3 47)=Lw_CloudApart.T47:=by kernel_rfl
theorem Lw_CloudApart.bits47:waitsOk Lw_CloudApart.T47.2 Lw_CloudApart.B47=true:=by kernel_rfl
def Lw_CloudApart.T52:Bool×List (List Nat×List Nat):=(true,[([],[]),([0],[0]),([],[]),([2],[2]),([],[]),([4],[4]),([1,3,5,1],[1,3,5]),([6],[6]),([7],[7]),([7],[7]),([8,6,0,1,2,3,4,5,6,7,8],[8]),([9,10,0,1,2,3,4,5,6,7,8,9,10],[9])])
def Lw_CloudApart.B52:List Nat:=[0,1,0,4,0,16,63,127,255,255,511,2047]
theorem Lw_CloudApart.tab52:rtab .any (opsOf Tryz.f3 52)=Lw_CloudApart.T52:=by kernel_rfl
theorem Lw_CloudApart.bits52:waitsOk Lw_CloudApart.T52.2 Lw_CloudApart.B52=true:=by kernel_rfl
def Lw_CloudApart.T53:Bool×List (List Nat×List Nat):=(true,[([],[]),([0],[0]),([],[]),([2],[2]),([],[]),([1,3,4,1],[1,3,4]),([5],[5]),([6],[6]),([6],[6]),([7,5,0,1,2,3,4,5,6,7],[7]),([8,9,0,1,2,3,4,5,6,7,8,9],[8])])
def Lw_CloudApart.B53:List Nat:=[0,1,0,4,0,31,63,127,127,255,1023]
theorem Lw_CloudApart.tab53:rtab .any (opsOf Tryz.f3 53)=Lw_CloudApart.T53:=by kernel_rfl
theorem Lw_CloudApart.bits53:waitsOk Lw_CloudApart.T53.2 Lw_CloudApart.B53=true:=by kernel_rfl
theorem Lw_CloudApart.calls (k : Nat) (A0 : Option Addr) (c0:Nat) (l0:List Int) (a1_0:Int) (a1_1:Int) (a1_2:Int) (a1_3:Int) (a1_4:Int) (a1_5:Int) (a2:Int) (r:Bool) (w:World) (hr0:Kd.C (Kd.int .i64) w A0 l0.length l0) (hc0:l0.length≤c0) (H:Lw_CloudApart.f k l0 a1_0 a1_1 a1_2 a1_3 a1_4 a1_5 a2=some r):
    Calls Tryz.prog 3 #[.slice A0 l0.length c0,.agg #[.int .i64 a1_0,.int .i64 a1_1,.int .i64 a1_2,.int .i64 a1_3,.int .i64 a1_4,.int .i64 a1_5],.int .i64 a2] w fun e w'=>e= .returned (.bool r)∧Below w.heap.size w w':=by
  have hu28:=Tryz.underlying28;have hu26:=Tryz.underlying26;have hu40:=Tryz.underlying40;have hu24:=Tryz.underlying24;have HR0:=m0 hr0;have HC0:=m0 hc0;clear hr0 hc0;have HB:=m0 (Below.refl w.heap.size w);unfold Lw_CloudApart.f at H;replace H:=oa H;obtain⟨t464,A4,H⟩:=H;(try dsimp only at H)
  by_cases c5:t464=true
  · skip
    as_aux_lemma=>
    subst c5;rw[if_pos rfl]at H;have HC6:=m0 H;clear H;go_enter Tryz.func3,Tryz.ntmps3
    go_upto_region 3 with (first|((with_reducible refine ga 4 rfl ?_);(try(refine gate_guard (by rfl) ?_;dsimp only));refine be 4 28 #[.int .i64 a1_0,.int .i64 a1_1,.int .i64 a1_2,.int .i64 a1_3,.int .i64 a1_4,.int .i64 a1_5] ?_;intro gb463 hg w7 hbox hb;have BK463:=m0 hbox;have GE463:=gw w hg;replace HB:=sb HB hb;clear hb hbox hg)|((with_reducible refine gc 7 rfl ?_);refine gl (some 29) Tryz.func7 #[] ?_;(with_reducible refine(Lw_awake.calls k  true _ A4.out).mono ?_);rintro e w8 ⟨rfl,hb⟩;refine⟨_,rfl,?_⟩;replace BK463:=bb BK463 hb;replace HB:=sb HB hb;(try clear hb)))
    (try simp only[Act.put,List.setIfInBounds_toArray,List.set_cons_zero,List.set_cons_succ])
    go_cut [53] (fun v53 wc=>∃ (kq:Nat) (x53_5:Bool),v53= .bool x53_5∧Aside0 (Lw_CloudApart.j0 kq l0 a2 x53_5 a1_0 a1_1 a1_2 a1_3 a1_4 a1_5=some r)∧Aside0 (kq≤k)∧Aside0 (wc.heap[gb463]?=some (.cells #[.int .i64 a1_0,.int .i64 a1_1,.int .i64 a1_2,.int .i64 a1_3,.int .i64 a1_4,.int .i64 a1_5] 28 (0,0)))∧Aside0 (Below w.heap.size w wc))
    case first=>
      as_aux_lemma=>
      have H:=HC6.out;clear HC6;replace H:=oa H;obtain⟨t465,A9,H⟩:=H;(try dsimp only at H)
      by_cases c10:t465=true
      · subst c10;rw[if_pos rfl]at H;replace H:=oa H;obtain⟨t466,A11,H⟩:=H;(try dsimp only at H)
        by_cases c12:t466=0
        · skip
          as_aux_lemma=>
          rw[if_pos c12]at H;have c12b0:=beq_iff_eq.mpr c12;have c12b1:=bne_eq_false_iff_eq.mpr c12;clear c12
          (first|rw[c12b0]|(simp only[i64_w,i32_w];rw[c12b0])|skip)
          replace H:=oa H;obtain⟨t467,A13,H⟩:=H;(try dsimp only at H)
          by_cases c14:t467=0
          · skip
            as_aux_lemma=>
            rw[if_pos c14]at H;have c14b0:=beq_iff_eq.mpr c14;have c14b1:=bne_eq_false_iff_eq.mpr c14;clear c14;replace H:=oa H;obtain⟨t468,A15,H⟩:=H;(try dsimp only at H);have H':=m0 H;clear H
            go_wp2_with (first|((with_reducible refine gc 8 rfl ?_);refine gl (some 32) Tryz.func8 #[.slice A0 l0.length c0] ?_;(with_reducible refine(Lw_few.calls _ _ l0 true _ ?side1 ?side2 A9.out).mono ?_);(case side1=>exact cb HR0 HB);(case side2=>exact HC0.out);rintro e w' ⟨rfl,⟨nd,rfl⟩⟩;refine⟨_,rfl,?_⟩)|(go_at_call 9;(with_reducible refine(Rf_ProfileErr.calls k _ _ l0 t466 _ ?side1 ?side2 A11.out).mono ?_);(case side1=>repeat(first|exact(Kd.C_below HR0.out bz)|(with_reducible refine Kd.C_alloc ?_ _)|(with_reducible refine Kd.C_drewN ?_ _)|(with_reducible refine Kd.C_drew ?_)));(case side2=>exact HC0.out);rintro e w' ⟨rfl,⟨nd,rfl⟩⟩;obtain⟨hcz16_0,hcz16_1,hcz16_2,hcz16_3,hcz16_4,hcz16_5,hfz16_0,hfz16_1,hfz16_2,hfz16_3,hfz16_4,hfz16_5⟩:=b6 BK463)|(go_at_call 10;(with_reducible refine(Rf_RuleErr.calls a1_3 a1_4 a1_5 t467 _ A13.out).mono ?_);rintro e w17 ⟨rfl,hb⟩;replace BK463:=bb BK463 hb;replace HB:=sb HB hb;(try clear hb);obtain⟨hcz18_0,hcz18_1,hcz18_2,hcz18_3,hcz18_4,hcz18_5,hfz18_0,hfz18_1,hfz18_2,hfz18_3,hfz18_4,hfz18_5⟩:=b6 BK463)|(go_at_call 11;(with_reducible refine(Bs_Within.calls a2 0 (wrap64 (a1_3-1)) t468 _ A15.out).mono ?_);rintro e w' ⟨rfl,⟨nd,rfl⟩⟩))
            go_meet
            case rel=>exact⟨_,(!t468),rz,H',⟨by first|omega|exact Nat.le_refl _⟩,⟨bk BK463.out⟩,⟨bz⟩⟩
          · skip
            as_aux_lemma=>
            rw[if_neg c14]at H;have c14b0:=beq_eq_false_iff_ne.mpr c14;have c14b1:=bne_iff_ne.mpr c14;have H':=m0 H;clear H
            go_wp2_with (first|((with_reducible refine gc 8 rfl ?_);refine gl (some 32) Tryz.func8 #[.slice A0 l0.length c0] ?_;(with_reducible refine(Lw_few.calls _ _ l0 true _ ?side1 ?side2 A9.out).mono ?_);(case side1=>exact cb HR0 HB);(case side2=>exact HC0.out);rintro e w' ⟨rfl,⟨nd,rfl⟩⟩;refine⟨_,rfl,?_⟩)|(go_at_call 9;(with_reducible refine(Rf_ProfileErr.calls k _ _ l0 t466 _ ?side1 ?side2 A11.out).mono ?_);(case side1=>repeat(first|exact(Kd.C_below HR0.out bz)|(with_reducible refine Kd.C_alloc ?_ _)|(with_reducible refine Kd.C_drewN ?_ _)|(with_reducible refine Kd.C_drew ?_)));(case side2=>exact HC0.out);rintro e w' ⟨rfl,⟨nd,rfl⟩⟩;obtain⟨hcz19_0,hcz19_1,hcz19_2,hcz19_3,hcz19_4,hcz19_5,hfz19_0,hfz19_1,hfz19_2,hfz19_3,hfz19_4,hfz19_5⟩:=b6 BK463)|(go_at_call 10;(with_reducible refine(Rf_RuleErr.calls a1_3 a1_4 a1_5 t467 _ A13.out).mono ?_);rintro e w20 ⟨rfl,hb⟩;replace BK463:=bb BK463 hb;replace HB:=sb HB hb;(try clear hb)))
            go_meet
            case rel=>exact⟨_,(true),rz,H',⟨by first|omega|exact Nat.le_refl _⟩,⟨bk BK463.out⟩,⟨bz⟩⟩
        · skip
          as_aux_lemma=>
          rw[if_neg c12]at H;have c12b0:=beq_eq_false_iff_ne.mpr c12;have c12b1:=bne_iff_ne.mpr c12
          (first|rw[c12b0]|(simp only[i64_w,i32_w];rw[c12b0])|skip)
          have H':=m0 H;clear H
          go_wp2_with (first|((with_reducible refine gc 8 rfl ?_);refine gl (some 32) Tryz.func8 #[.slice A0 l0.length c0] ?_;(with_reducible refine(Lw_few.calls _ _ l0 true _ ?side1 ?side2 A9.out).mono ?_);(case side1=>exact cb HR0 HB);(case side2=>exact HC0.out);rintro e w' ⟨rfl,⟨nd,rfl⟩⟩;refine⟨_,rfl,?_⟩)|(go_at_call 9;(with_reducible refine(Rf_ProfileErr.calls k _ _ l0 t466 _ ?side1 ?side2 A11.out).mono ?_);(case side1=>repeat(first|exact(Kd.C_below HR0.out bz)|(with_reducible refine Kd.C_alloc ?_ _)|(with_reducible refine Kd.C_drewN ?_ _)|(with_reducible refine Kd.C_drew ?_)));(case side2=>exact HC0.out);rintro e w' ⟨rfl,⟨nd,rfl⟩⟩))
          go_meet
          case rel=>exact⟨_,(true),rz,H',⟨by first|omega|exact Nat.le_refl _⟩,⟨bk BK463.out⟩,⟨bz⟩⟩
      · skip
        as_aux_lemma=>
        replace c10:=Bool.eq_false_iff.mpr c10;subst c10;rw[if_neg (show ¬ (false=true) by decide)]at H;have H':=m0 H;clear H
        go_wp2_with (first|((with_reducible refine gc 8 rfl ?_);refine gl (some 32) Tryz.func8 #[.slice A0 l0.length c0] ?_;(with_reducible refine(Lw_few.calls _ _ l0 false _ ?side1 ?side2 A9.out).mono ?_);(case side1=>exact cb HR0 HB);(case side2=>exact HC0.out);rintro e w' ⟨rfl,⟨nd,rfl⟩⟩;refine⟨_,rfl,?_⟩))
        go_meet
        case rel=>exact⟨_,(true),rz,H',⟨by first|omega|exact Nat.le_refl _⟩,⟨bk BK463.out⟩,⟨bz⟩⟩
    case rest =>
      as_aux_lemma=>
      clear HC6
      try clear hcz16_0
      try clear hcz16_1
      try clear hcz16_2
      try clear hcz16_3
      try clear hcz16_4
      try clear hcz16_5
      try clear hcz18_0
      try clear hcz18_1
      try clear hcz18_2
      try clear hcz18_3
      try clear hcz18_4
      try clear hcz18_5
      try clear hcz19_0
      try clear hcz19_1
      try clear hcz19_2
      try clear hcz19_3
      try clear hcz19_4
      try clear hcz19_5
      try clear hfz16_0
      try clear hfz16_1
      try clear hfz16_2
      try clear hfz16_3
      try clear hfz16_4
      try clear hfz16_5
      try clear hfz18_0
      try clear hfz18_1
      try clear hfz18_2
      try clear hfz18_3
      try clear hfz18_4
      try clear hfz18_5
      try clear hfz19_0
      try clear hfz19_1
      try clear hfz19_2
      try clear hfz19_3
      try clear hfz19_4
      try clear hfz19_5
      obtain⟨kq,x53_5,rfl,HA,HJ5,BK463,HB⟩:=hcut
      cases kq with
      |zero=>exact absurd HA.out (by simp[Lw_CloudApart.j0])
      | succ kj5 =>
        have H:=HA.out;clear HA;simp only[Lw_CloudApart.j0]at H
        by_cases c21:x53_5=true
        · subst c21;rw[if_pos rfl]at H;obtain rfl:=Option.some.inj H
          go_wp2
          go_ret
          exact ez
        · skip
          as_aux_lemma=>
          replace c21:=Bool.eq_false_iff.mpr c21;subst c21;rw[if_neg (show ¬ (false=true) by decide)]at H;replace H:=oa H;obtain⟨t471,A22,H⟩:=H;(try dsimp only at H);replace H:=oa H;obtain⟨⟨t474,t477⟩,A23,H⟩:=H;(try dsimp only at H);replace H:=oa H;obtain⟨t478,A24,H⟩:=H;(try dsimp only at H);replace H:=oa H;obtain⟨⟨t481,t484⟩,A25,H⟩:=H;(try dsimp only at H);replace H:=oa H;obtain⟨t485,A26,H⟩:=H;(try dsimp only at H);replace H:=oa H;obtain⟨⟨t488,t491⟩,A27,H⟩:=H;(try dsimp only at H);have HC28:=m0 H;clear H;obtain⟨hcz29_0,hcz29_1,hcz29_2,hcz29_3,hcz29_4,hcz29_5,hfz29_0,hfz29_1,hfz29_2,hfz29_3,hfz29_4,hfz29_5⟩:=b6 BK463
          try go_wp2_with (first|((with_reducible refine ga 7 rfl ?_);(try(refine gate_guard (by rfl) ?_;dsimp only));refine be 7 26 #[.int .i64 0,.int .i64 0,.int .i64 0] ?_;intro gb469 hg w30 hbox hb;have BK469:=m0 hbox;have GE469:=gw w hg;replace HB:=sb HB hb;have NB463_469:=nl BK463 hg;have NB469_463:=ng (nl BK463 hg);replace BK463:=bb BK463 hb;clear hb hbox hg;have hnb31:=NB469_463.out;have hnc31:=NB463_469.out;obtain⟨hcz32_0,hcz32_1,hcz32_2,hfz32_0,hfz32_1,hfz32_2⟩:=b3 BK469;obtain⟨hcz33_0,hcz33_1,hcz33_2,hcz33_3,hcz33_4,hcz33_5,hfz33_0,hfz33_1,hfz33_2,hfz33_3,hfz33_4,hfz33_5⟩:=b6 BK463)|((with_reducible refine ga 8 rfl ?_);(try(refine gate_guard (by rfl) ?_;dsimp only));refine be 8 26 #[.int .i64 0,.int .i64 0,.int .i64 0] ?_;intro gb470 hg w34 hbox hb;have BK470:=m0 hbox;have GE470:=gw w hg;replace HB:=sb HB hb;have NB463_470:=m0 ((by rw[hg];exact Nat.ne_of_lt (blk_lt (g:=gb463) (o:= .cells #[.int .i64 a1_0,.int .i64 a1_1,.int .i64 a1_2,.int .i64 a1_3,.int .i64 a1_4,.int .i64 a1_5] 28 (0,0)) (bq BK463.out)):gb463≠gb470));have NB470_463:=m0 ((by rw[hg];exact Nat.ne_of_gt (blk_lt (g:=gb463) (o:= .cells #[.int .i64 a1_0,.int .i64 a1_1,.int .i64 a1_2,.int .i64 a1_3,.int .i64 a1_4,.int .i64 a1_5] 28 (0,0)) (bq BK463.out)):gb470≠gb463));replace BK463:=m0 (blk_below (g:=gb463) (o:= .cells #[.int .i64 a1_0,.int .i64 a1_1,.int .i64 a1_2,.int .i64 a1_3,.int .i64 a1_4,.int .i64 a1_5] 28 (0,0)) (bq BK463.out) hb);have NB469_470:=m0 ((by rw[hg];exact Nat.ne_of_lt (blk_lt (g:=gb469) (o:= .cells #[.int .i64 a1_3,.int .i64 a1_4,.int .i64 1] 26 (0,0)) (bq BK469.out)):gb469≠gb470));have NB470_469:=m0 ((by rw[hg];exact Nat.ne_of_gt (blk_lt (g:=gb469) (o:= .cells #[.int .i64 a1_3,.int .i64 a1_4,.int .i64 1] 26 (0,0)) (bq BK469.out)):gb470≠gb469));replace BK469:=m0 (blk_below (g:=gb469) (o:= .cells #[.int .i64 a1_3,.int .i64 a1_4,.int .i64 1] 26 (0,0)) (bq BK469.out) hb);clear hb hbox hg;have hnb35:=NB470_463.out;have hnc35:=NB463_470.out;have hnb36:=NB470_469.out;have hnc36:=NB469_470.out;obtain⟨hcz37_0,hcz37_1,hcz37_2,hfz37_0,hfz37_1,hfz37_2⟩:=b3 BK470))
          replace BK463:Aside0 (((((w34.setCell ⟨gb470,0,none⟩ (.int .i64 a1_3)).setCell ⟨gb470,1,none⟩ (.int .i64 a1_4)).setCell ⟨gb470,2,none⟩ (.int .i64 a1_5)).setCell ⟨gb470,0,none⟩ (.int .i64 (wrap64 (a1_3-a2)))).heap[gb463]?=some (.cells #[.int .i64 a1_0,.int .i64 a1_1,.int .i64 a1_2,.int .i64 a1_3,.int .i64 a1_4,.int .i64 a1_5] 28 (0,0))):=⟨bq BK463.out⟩;replace BK469:Aside0 (((((w34.setCell ⟨gb470,0,none⟩ (.int .i64 a1_3)).setCell ⟨gb470,1,none⟩ (.int .i64 a1_4)).setCell ⟨gb470,2,none⟩ (.int .i64 a1_5)).setCell ⟨gb470,0,none⟩ (.int .i64 (wrap64 (a1_3-a2)))).heap[gb469]?=some (.cells #[.int .i64 a1_3,.int .i64 a1_4,.int .i64 1] 26 (0,0))):=⟨bq BK469.out⟩;replace BK470:Aside0 (((((w34.setCell ⟨gb470,0,none⟩ (.int .i64 a1_3)).setCell ⟨gb470,1,none⟩ (.int .i64 a1_4)).setCell ⟨gb470,2,none⟩ (.int .i64 a1_5)).setCell ⟨gb470,0,none⟩ (.int .i64 (wrap64 (a1_3-a2)))).heap[gb470]?=some (.cells #[.int .i64 (wrap64 (a1_3-a2)),.int .i64 a1_4,.int .i64 a1_5] 26 (0,0))):=⟨bq BK470.out⟩;replace HB:Aside0 (Below w.heap.size w ((((w34.setCell ⟨gb470,0,none⟩ (.int .i64 a1_3)).setCell ⟨gb470,1,none⟩ (.int .i64 a1_4)).setCell ⟨gb470,2,none⟩ (.int .i64 a1_5)).setCell ⟨gb470,0,none⟩ (.int .i64 (wrap64 (a1_3-a2))))):=⟨bz⟩;generalize ((((w34.setCell ⟨gb470,0,none⟩ (.int .i64 a1_3)).setCell ⟨gb470,1,none⟩ (.int .i64 a1_4)).setCell ⟨gb470,2,none⟩ (.int .i64 a1_5)).setCell ⟨gb470,0,none⟩ (.int .i64 (wrap64 (a1_3-a2))))=w38 at BK463 BK469 BK470 HB ⊢;replace BK463:=bd BK463;replace BK469:=bd BK469;replace BK470:=bd BK470;replace HB:=sd HB;refine start_ (n:=10) (S:=fun w'=>w'.cell? ⟨gb463,0,none⟩=some (.int .i64 a1_0)∧w'.cell? ⟨gb463,1,none⟩=some (.int .i64 a1_1)∧w'.cell? ⟨gb463,2,none⟩=some (.int .i64 a1_2)∧w'.cell? ⟨gb463,3,none⟩=some (.int .i64 a1_3)∧w'.cell? ⟨gb463,4,none⟩=some (.int .i64 a1_4)∧w'.cell? ⟨gb463,5,none⟩=some (.int .i64 a1_5)) (ds:=[]) _ (by kernel_rfl) rfl rfl cz (fun hH=>?_);refine with_tabW Lw_CloudApart.tab9 Lw_CloudApart.bits9 (fun HT_ HW_=>?_);generalize w38.drew=w39 at BK463 BK469 BK470 HB hH ⊢;refine pZ 0 (some 65) #[true,false,false,false,false,false,false,false,false,false] HT_ ?_;refine pZ 2 (some 67) #[true,false,true,false,false,false,false,false,false,false] HT_ ?_;refine takeZ 3 (some 68) #[true,false,true,true,false,false,false,false,false,false] (tw HT_ HW_) hH ?_;refine oneZ 1 (some 66) #[true,true,true,true,false,false,false,false,false,false] (o1 HT_) fun K hK=>?_;refine gz Tryz.func13 #[.slice A0 l0.length c0] ?_
          with_reducible refine(Bs_CopyInts.calls _ _ l0 t471 _ ?side1 ?side2 A22.out).mono ?_
          (case side1=>exact cb HR0 HB)
          (case side2=>exact HC0.out)
          rintro e w40 ⟨v472,rfl,ho0,hb⟩;refine⟨_,rfl,?_⟩;have HO473:=m0 (Kd.R_lower ho0 (below_size bz));replace BK463:=bb BK463 hb;replace BK469:=bb BK469 hb;replace BK470:=bb BK470 hb;replace HB:=sb HB hb;(try clear hb);(try clear ho0);obtain⟨Ao41,co41,eo41⟩:=Kd.R_slice HO473.out;subst eo41;refine hK.out _ _ cz (fun hH=>?_);clear hK K;refine nz 66 ?_;refine oneZ 4 (some 69) #[true,true,true,true,true,false,false,false,false,false] (o1 HT_) fun K hK=>?_;refine gz Tryz.func12 #[.slice Ao41 t471.length co41,.agg #[.int .i64 a1_3,.int .i64 a1_4,.int .i64 a1_5]] ?_
          with_reducible refine(L_LayersIn.calls kj5 _ _ t471 a1_3 a1_4 a1_5 t474 t477 _ ?side1 ?side2 A23.out).mono ?_
          (case side1=>exact bc (Kd.R_reads' HO473.out).2.2)
          (case side2=>exact(Kd.R_reads' HO473.out).2.1)
          rintro e w42 ⟨v475,rfl,ho0,hb⟩;refine⟨_,rfl,?_⟩;replace HO473:=rb HO473 hb;have HO476:=m0 (Kd.R_lower ho0 (below_size bz));replace BK463:=bb BK463 hb;replace BK469:=bb BK469 hb;replace BK470:=bb BK470 hb;replace HB:=sb HB hb;(try clear hb);(try clear ho0);refine hK.out _ _ cz (fun hH=>?_);clear hK K;refine nz 69 ?_;refine pZ 5 (some 64) #[true,true,true,true,true,true,false,false,false,false] HT_ ?_;refine pZ 6 (some 70) #[true,true,true,true,true,true,true,false,false,false] HT_ ?_;refine pZ 7 (some 71) #[true,true,true,true,true,true,true,true,false,false] HT_ ?_;refine pZ 8 (some 9) #[true,true,true,true,true,true,true,true,true,false] HT_ ?_;refine pZ 9 (some 10) #[true,true,true,true,true,true,true,true,true,true] HT_ ?_;refine done_ (done_of HT_.out (by kernel_rfl)) ?_
          try go_wp2
          replace HO473:=m0 (Kd.R_drew HO473.out);replace HO476:=m0 (Kd.R_drew HO476.out);replace BK463:=bd BK463;replace BK469:=bd BK469;replace BK470:=bd BK470;replace HB:=sd HB;refine start_ (n:=9) (S:=fun w'=>w'.cell? ⟨gb469,0,none⟩=some (.int .i64 a1_3)∧w'.cell? ⟨gb469,1,none⟩=some (.int .i64 a1_4)∧w'.cell? ⟨gb469,2,none⟩=some (.int .i64 1)) (ds:=[]) _ (by kernel_rfl) rfl rfl cz (fun hH=>?_);refine with_tabW Lw_CloudApart.tab10 Lw_CloudApart.bits10 (fun HT_ HW_=>?_);generalize w42.drew=w43 at HO473 HO476 BK463 BK469 BK470 HB hH ⊢;refine pZ 0 (some 73) #[true,false,false,false,false,false,false,false,false] HT_ ?_;refine takeZ 2 (some 75) #[true,false,true,false,false,false,false,false,false] (tw HT_ HW_) hH ?_;refine oneZ 1 (some 74) #[true,true,true,false,false,false,false,false,false] (o1 HT_) fun K hK=>?_;refine gz Tryz.func13 #[.slice A0 l0.length c0] ?_
          with_reducible refine(Bs_CopyInts.calls _ _ l0 t478 _ ?side1 ?side2 A24.out).mono ?_
          (case side1=>exact cb HR0 HB)
          (case side2=>exact HC0.out)
          rintro e w44 ⟨v479,rfl,ho0,hb⟩;refine⟨_,rfl,?_⟩;replace HO476:=rb HO476 hb;have HO480:=m0 (Kd.R_lower (Kd.R_new' ho0 (Kd.R_lt (br HO473.out))) (below_size bz));replace HO473:=m0 (Kd.R_elder' (br HO473.out) (Kd.R_base ho0) hb);replace BK463:=bb BK463 hb;replace BK469:=bb BK469 hb;replace BK470:=bb BK470 hb;replace HB:=sb HB hb;(try clear hb);(try clear ho0);obtain⟨Ao45,co45,eo45⟩:=Kd.R_slice HO480.out;subst eo45;refine hK.out _ _ cz (fun hH=>?_);clear hK K;refine nz 74 ?_;refine oneZ 3 (some 76) #[true,true,true,true,false,false,false,false,false] (o1 HT_) fun K hK=>?_;refine gz Tryz.func12 #[.slice Ao45 t478.length co45,.agg #[.int .i64 a1_3,.int .i64 a1_4,.int .i64 1]] ?_
          with_reducible refine(L_LayersIn.calls kj5 _ _ t478 a1_3 a1_4 1 t481 t484 _ ?side1 ?side2 A25.out).mono ?_
          (case side1=>exact bc (Kd.R_reads' HO480.out).2.2)
          (case side2=>exact(Kd.R_reads' HO480.out).2.1)
          rintro e w46 ⟨v482,rfl,ho0,hb⟩;refine⟨_,rfl,?_⟩;replace HO473:=rb HO473 hb;replace HO480:=rb HO480 hb;have HO483:=m0 (Kd.R_lower (Kd.R_new' ho0 (Kd.R_lt (br HO476.out))) (below_size bz));replace HO476:=m0 (Kd.R_elder' (br HO476.out) (Kd.R_base ho0) hb);replace BK463:=bb BK463 hb;replace BK469:=bb BK469 hb;replace BK470:=bb BK470 hb;replace HB:=sb HB hb;(try clear hb);(try clear ho0);refine hK.out _ _ cz (fun hH=>?_);clear hK K;refine nz 76 ?_;refine pZ 4 (some 72) #[true,true,true,true,true,false,false,false,false] HT_ ?_;refine pZ 5 (some 77) #[true,true,true,true,true,true,false,false,false] HT_ ?_;refine pZ 6 (some 78) #[true,true,true,true,true,true,true,false,false] HT_ ?_;refine pZ 7 (some 11) #[true,true,true,true,true,true,true,true,false] HT_ ?_;refine pZ 8 (some 12) #[true,true,true,true,true,true,true,true,true] HT_ ?_;refine done_ (done_of HT_.out (by kernel_rfl)) ?_
          try go_wp2
          replace HO473:=m0 (Kd.R_drew HO473.out);replace HO476:=m0 (Kd.R_drew HO476.out);replace HO480:=m0 (Kd.R_drew HO480.out);replace HO483:=m0 (Kd.R_drew HO483.out);replace BK463:=bd BK463;replace BK469:=bd BK469;replace BK470:=bd BK470;replace HB:=sd HB;refine start_ (n:=9) (S:=fun w'=>w'.cell? ⟨gb470,0,none⟩=some (.int .i64 (wrap64 (a1_3-a2)))∧w'.cell? ⟨gb470,1,none⟩=some (.int .i64 a1_4)∧w'.cell? ⟨gb470,2,none⟩=some (.int .i64 a1_5)) (ds:=[]) _ (by kernel_rfl) rfl rfl cz (fun hH=>?_);refine with_tabW Lw_CloudApart.tab11 Lw_CloudApart.bits11 (fun HT_ HW_=>?_);generalize w46.drew=w47 at HO473 HO476 HO480 HO483 BK463 BK469 BK470 HB hH ⊢;refine pZ 0 (some 80) #[true,false,false,false,false,false,false,false,false] HT_ ?_;refine takeZ 2 (some 82) #[true,false,true,false,false,false,false,false,false] (tw HT_ HW_) hH ?_;refine oneZ 1 (some 81) #[true,true,true,false,false,false,false,false,false] (o1 HT_) fun K hK=>?_;refine gz Tryz.func13 #[.slice A0 l0.length c0] ?_
          with_reducible refine(Bs_CopyInts.calls _ _ l0 t485 _ ?side1 ?side2 A26.out).mono ?_
          (case side1=>exact cb HR0 HB)
          (case side2=>exact HC0.out)
          rintro e w48 ⟨v486,rfl,ho0,hb⟩;refine⟨_,rfl,?_⟩;replace HO476:=rb HO476 hb;replace HO483:=rb HO483 hb;have HO487:=m0 (Kd.R_lower (Kd.R_new' (Kd.R_new' ho0 (Kd.R_lt (br HO473.out))) (Kd.R_lt (br HO480.out))) (below_size bz));replace HO473:=m0 (Kd.R_elder' (br HO473.out) (Kd.R_base ho0) hb);replace HO480:=m0 (Kd.R_elder' (br HO480.out) (Kd.R_base ho0) hb);replace BK463:=bb BK463 hb;replace BK469:=bb BK469 hb;replace BK470:=bb BK470 hb;replace HB:=sb HB hb;(try clear hb);(try clear ho0);obtain⟨Ao49,co49,eo49⟩:=Kd.R_slice HO487.out;subst eo49;refine hK.out _ _ cz (fun hH=>?_);clear hK K;refine nz 81 ?_;refine oneZ 3 (some 83) #[true,true,true,true,false,false,false,false,false] (o1 HT_) fun K hK=>?_;refine gz Tryz.func12 #[.slice Ao49 t485.length co49,.agg #[.int .i64 (wrap64 (a1_3-a2)),.int .i64 a1_4,.int .i64 a1_5]] ?_
          with_reducible refine(L_LayersIn.calls kj5 _ _ t485 (wrap64 (a1_3-a2)) a1_4 a1_5 t488 t491 _ ?side1 ?side2 A27.out).mono ?_
          (case side1=>exact bc (Kd.R_reads' HO487.out).2.2)
          (case side2=>exact(Kd.R_reads' HO487.out).2.1)
          rintro e w50 ⟨v489,rfl,ho0,hb⟩;refine⟨_,rfl,?_⟩;replace HO473:=rb HO473 hb;replace HO480:=rb HO480 hb;replace HO487:=rb HO487 hb;have HO490:=m0 (Kd.R_lower (Kd.R_new' (Kd.R_new' ho0 (Kd.R_lt (br HO476.out))) (Kd.R_lt (br HO483.out))) (below_size bz));replace HO476:=m0 (Kd.R_elder' (br HO476.out) (Kd.R_base ho0) hb);replace HO483:=m0 (Kd.R_elder' (br HO483.out) (Kd.R_base ho0) hb);replace BK463:=bb BK463 hb;replace BK469:=bb BK469 hb;replace BK470:=bb BK470 hb;replace HB:=sb HB hb;(try clear hb);(try clear ho0);refine hK.out _ _ cz (fun hH=>?_);clear hK K;refine nz 83 ?_;refine pZ 4 (some 79) #[true,true,true,true,true,false,false,false,false] HT_ ?_;refine pZ 5 (some 84) #[true,true,true,true,true,true,false,false,false] HT_ ?_;refine pZ 6 (some 85) #[true,true,true,true,true,true,true,false,false] HT_ ?_;refine pZ 7 (some 13) #[true,true,true,true,true,true,true,true,false] HT_ ?_;refine pZ 8 (some 14) #[true,true,true,true,true,true,true,true,true] HT_ ?_;refine done_ (done_of HT_.out (by kernel_rfl)) ?_
          go_upto_region 12 with (fail)
          go_cut [95] (fun v95 wc=>∃ (kq:Nat) (x95_27:Bool),v95= .bool x95_27∧Aside0 (Lw_CloudApart.j1 kq l0 t474 t481 t488 x95_27 a1_0 a1_1 a1_2 a1_3 a1_4 a1_5=some r)∧Aside0 (kq≤kj5)∧Aside0 (Kd.R k40 40 wc w.heap.size (fun k_=>some k_≠(v482:Value).ownBlock∧some k_≠(v489:Value).ownBlock) v475 t474)∧Aside0 (Kd.R k40 40 wc w.heap.size (fun k_=>some k_≠(v475:Value).ownBlock∧some k_≠(v489:Value).ownBlock) v482 t481)∧Aside0 (Kd.R k40 40 wc w.heap.size (fun k_=>some k_≠(v475:Value).ownBlock∧some k_≠(v482:Value).ownBlock) v489 t488)∧Aside0 (wc.heap[gb463]?=some (.cells #[.int .i64 a1_0,.int .i64 a1_1,.int .i64 a1_2,.int .i64 a1_3,.int .i64 a1_4,.int .i64 a1_5] 28 (0,0)))∧Aside0 (wc.heap[gb469]?=some (.cells #[.int .i64 a1_3,.int .i64 a1_4,.int .i64 1] 26 (0,0)))∧Aside0 (wc.heap[gb470]?=some (.cells #[.int .i64 (wrap64 (a1_3-a2)),.int .i64 a1_4,.int .i64 a1_5] 26 (0,0)))∧Aside0 (Below w.heap.size w wc))
          case first=>
            as_aux_lemma=>
            have H:=HC28.out;clear HC28
            by_cases c51:t477=0
            · rw[if_pos c51]at H;have c51b0:=beq_iff_eq.mpr c51;have c51b1:=bne_eq_false_iff_eq.mpr c51;clear c51
              (first|rw[c51b0]|(simp only[i64_w,i32_w];rw[c51b0])|skip)
              by_cases c52:t484=0
              · rw[if_pos c52]at H;have c52b0:=beq_iff_eq.mpr c52;have c52b1:=bne_eq_false_iff_eq.mpr c52;clear c52;have H':=m0 H;clear H
                go_wp2
                go_meet
                case rel=>exact⟨_,((t491 != 0)),rz,H',⟨by have:=HJ5.out;first|omega|exact Nat.le_refl _⟩,⟨by (with_reducible repeat(first|apply Kd.R_alloc|apply Kd.R_drewN|apply Kd.R_drew));exact Kd.R_mono HO476.out (fun _ hk=>⟨hk.1.2,hk.2⟩)⟩,⟨by (with_reducible repeat(first|apply Kd.R_alloc|apply Kd.R_drewN|apply Kd.R_drew));exact Kd.R_mono HO483.out (fun _ hk=>⟨hk.1.2,hk.2⟩)⟩,⟨by (with_reducible repeat(first|apply Kd.R_alloc|apply Kd.R_drewN|apply Kd.R_drew));exact Kd.R_mono HO490.out (fun _ hk=>⟨hk.1.2,hk.2⟩)⟩,⟨bk BK463.out⟩,⟨bk BK469.out⟩,⟨bk BK470.out⟩,⟨bz⟩⟩
              · rw[if_neg c52]at H;exact absurd H (by simp)
            · rw[if_neg c51]at H;exact absurd H (by simp)
          case rest =>
            as_aux_lemma=>
            clear HC28
            try clear hcz29_0
            try clear hcz29_1
            try clear hcz29_2
            try clear hcz29_3
            try clear hcz29_4
            try clear hcz29_5
            try clear hcz32_0
            try clear hcz32_1
            try clear hcz32_2
            try clear hcz33_0
            try clear hcz33_1
            try clear hcz33_2
            try clear hcz33_3
            try clear hcz33_4
            try clear hcz33_5
            try clear hcz37_0
            try clear hcz37_1
            try clear hcz37_2
            try clear hfz29_0
            try clear hfz29_1
            try clear hfz29_2
            try clear hfz29_3
            try clear hfz29_4
            try clear hfz29_5
            try clear hfz32_0
            try clear hfz32_1
            try clear hfz32_2
            try clear hfz33_0
            try clear hfz33_1
            try clear hfz33_2
            try clear hfz33_3
            try clear hfz33_4
            try clear hfz33_5
            try clear hfz37_0
            try clear hfz37_1
            try clear hfz37_2
            obtain⟨kq,x95_27,rfl,HA,HJ27,HO_9,HO_11,HO_13,BK463,BK469,BK470,HB⟩:=hcut
            cases kq with
            |zero=>exact absurd HA.out (by simp[Lw_CloudApart.j1])
            | succ kj27 =>
              have H:=HA.out;clear HA;simp only[Lw_CloudApart.j1]at H
              by_cases c53:x95_27=true
              · subst c53;rw[if_pos rfl]at H;exact absurd H (by simp)
              · replace c53 := Bool.eq_false_iff.mpr c53; subst c53;rw[if_neg (show ¬ (false=true) by decide)]at H;have H':=m0 H;clear H
                go_wp2
                go_loopg [15,16] kj27 (fun kq v15 v16 w'=>∃ (x15_3:Int) (x16_3:Int),v15= .int .i64 x15_3∧v16= .int .i64 x16_3∧Aside0 (Lw_CloudApart.l0 kq l0 t474 t481 t488 x15_3 x16_3 a1_0 a1_1 a1_2 a1_3 a1_4 a1_5=some r)∧Aside0 (kq≤kj27)∧Aside0 (Kd.R k40 40 w' w.heap.size (fun k_=>some k_≠(v482:Value).ownBlock∧some k_≠(v489:Value).ownBlock) v475 t474)∧Aside0 (Kd.R k40 40 w' w.heap.size (fun k_=>some k_≠(v475:Value).ownBlock∧some k_≠(v489:Value).ownBlock) v482 t481)∧Aside0 (Kd.R k40 40 w' w.heap.size (fun k_=>some k_≠(v475:Value).ownBlock∧some k_≠(v482:Value).ownBlock) v489 t488)∧Aside0 (w'.heap[gb463]?=some (.cells #[.int .i64 a1_0,.int .i64 a1_1,.int .i64 a1_2,.int .i64 a1_3,.int .i64 a1_4,.int .i64 a1_5] 28 (0,0)))∧Aside0 (w'.heap[gb469]?=some (.cells #[.int .i64 a1_3,.int .i64 a1_4,.int .i64 1] 26 (0,0)))∧Aside0 (w'.heap[gb470]?=some (.cells #[.int .i64 (wrap64 (a1_3-a2)),.int .i64 a1_4,.int .i64 a1_5] 26 (0,0)))∧Aside0 (Below w.heap.size w w'))
                case atStart=>exact⟨(0),(0),rz,rz,H',⟨Nat.le_refl _⟩,⟨br HO_9.out⟩,⟨br HO_11.out⟩,⟨br HO_13.out⟩,⟨bk BK463.out⟩,⟨bk BK469.out⟩,⟨bk BK470.out⟩,⟨bz⟩⟩
                case round =>
                  as_aux_lemma=>
                  clear H'
                  try clear hcz29_0
                  try clear hcz29_1
                  try clear hcz29_2
                  try clear hcz29_3
                  try clear hcz29_4
                  try clear hcz29_5
                  try clear hcz32_0
                  try clear hcz32_1
                  try clear hcz32_2
                  try clear hcz33_0
                  try clear hcz33_1
                  try clear hcz33_2
                  try clear hcz33_3
                  try clear hcz33_4
                  try clear hcz33_5
                  try clear hcz37_0
                  try clear hcz37_1
                  try clear hcz37_2
                  try clear hfz29_0
                  try clear hfz29_1
                  try clear hfz29_2
                  try clear hfz29_3
                  try clear hfz29_4
                  try clear hfz29_5
                  try clear hfz32_0
                  try clear hfz32_1
                  try clear hfz32_2
                  try clear hfz33_0
                  try clear hfz33_1
                  try clear hfz33_2
                  try clear hfz33_3
                  try clear hfz33_4
                  try clear hfz33_5
                  try clear hfz37_0
                  try clear hfz37_1
                  try clear hfz37_2
                  obtain⟨x15_3,x16_3,rfl,rfl,HA,HK3,HO_9,HO_11,HO_13,BK463,BK469,BK470,HB⟩:=hrel
                  cases gk with
                  |zero=>exact absurd HA.out (by simp[Lw_CloudApart.l0])
                  | succ k3 =>
                    have H:=HA.out;clear HA;simp only[Lw_CloudApart.l0]at H
                    by_cases c54:x16_3<(t481.length:Int)
                    · skip
                      as_aux_lemma=>
                      rw[if_pos c54]at H;have c54b0:=decide_eq_true c54;clear c54;have HC55:=m0 H;clear H;obtain⟨Ao56,co56,eo56⟩:=Kd.R_slice HO_11.out;subst eo56
                      go_upto_region 18 with (fail)
                      go_cut [179] (fun v179 wc=>∃ (kq:Nat) (x179_54:Bool),v179= .bool x179_54∧Aside0 (Lw_CloudApart.j3 kq l0 t474 t481 t488 x15_3 x16_3 x179_54 a1_0 a1_1 a1_2 a1_3 a1_4 a1_5=some r)∧Aside0 (kq≤k3)∧Aside0 (Kd.R k40 40 wc w.heap.size (fun k_=>some k_≠((.slice Ao56 t481.length co56):Value).ownBlock∧some k_≠(v489:Value).ownBlock) v475 t474)∧Aside0 (Kd.R k40 40 wc w.heap.size (fun k_=>some k_≠(v475:Value).ownBlock∧some k_≠(v489:Value).ownBlock) (.slice Ao56 t481.length co56) t481)∧Aside0 (Kd.R k40 40 wc w.heap.size (fun k_=>some k_≠(v475:Value).ownBlock∧some k_≠((.slice Ao56 t481.length co56):Value).ownBlock) v489 t488)∧Aside0 (wc.heap[gb463]?=some (.cells #[.int .i64 a1_0,.int .i64 a1_1,.int .i64 a1_2,.int .i64 a1_3,.int .i64 a1_4,.int .i64 a1_5] 28 (0,0)))∧Aside0 (wc.heap[gb469]?=some (.cells #[.int .i64 a1_3,.int .i64 a1_4,.int .i64 1] 26 (0,0)))∧Aside0 (wc.heap[gb470]?=some (.cells #[.int .i64 (wrap64 (a1_3-a2)),.int .i64 a1_4,.int .i64 a1_5] 26 (0,0)))∧Aside0 (Below w.heap.size w wc))
                      case first =>
                        have H:=HC55.out;clear HC55
                        by_cases c57:0≤x16_3
                        · skip
                          as_aux_lemma=>
                          rw[if_pos c57]at H;have c57b0:=decide_eq_true c57;clear c57
                          (first|rw[c57b0]|(simp only[i64_w,i32_w];rw[c57b0])|skip)
                          replace H:=oa H;obtain⟨t493,A58,H⟩:=H;(try dsimp only at H)
                          by_cases c59:t493=true
                          · subst c59; rw [if_pos rfl]at H;replace H:=oa H;obtain⟨t496,A60,H⟩:=H;(try dsimp only at H)
                            by_cases c61:t496=true
                            · skip
                              as_aux_lemma=>
                              subst c61;rw[if_pos rfl]at H
                              by_cases c62:x16_3>0
                              · rw [if_pos c62] at H;have c62b0:=decide_eq_true c62;clear c62;obtain⟨ji63,hji63⟩:∃ j_:Int,(wrap64 (x16_3-1))=j_:=⟨_,rfl⟩;replace H:(if 0≤(ji63)then(if(ji63)<(t481.length:Int)then(if(wrap64 ((wrap64 (((rd_T40 t481 x16_3).f0)-((rd_T40 t481 (ji63)).f1)))-1))≤a1_4 then(none)else(if 0≤((rd_T40 t481 x16_3).f0)then(if((rd_T40 t481 x16_3).f0)<(l0.length:Int)then(if(rd l0 ((rd_T40 t481 x16_3).f0))<a1_3 then(none)else(if 0≤((rd_T40 t481 x16_3).f1)then(if((rd_T40 t481 x16_3).f1)<(l0.length:Int)then(Lw_CloudApart.j3 k3 l0 t474 t481 t488 x15_3 x16_3 (decide ((rd l0 ((rd_T40 t481 x16_3).f1))<a1_3)) a1_0 a1_1 a1_2 a1_3 a1_4 a1_5)else(none))else(none)))else(none))else(none)))else(none))else(none))=some r:=by first|(rw[hji63]at H;exact H)|(simp only[hji63]at H ⊢;exact H)
                                (try rw[hji63]at A58);(try rw[hji63]at A60);have hji63w:(IntKind.i64.wrap (x16_3-1))=ji63:=(i64_w _).trans hji63
                                by_cases c64:0≤(ji63)
                                · rw [if_pos c64]at H;have c64b0:=decide_eq_true c64;clear c64
                                  by_cases c65:(ji63)<(t481.length:Int)
                                  · skip
                                    as_aux_lemma=>
                                    rw[if_pos c65]at H;have c65b0:=decide_eq_true c65;clear c65
                                    by_cases c66:(wrap64 ((wrap64 (((rd_T40 t481 x16_3).f0)-((rd_T40 t481 (ji63)).f1)))-1))≤a1_4
                                    · rw[if_pos c66]at H;have c66b0:=decide_eq_true c66;clear c66;exact absurd H (by simp)
                                    · rw [if_neg c66]at H;have c66b0:=decide_eq_false c66;clear c66
                                      by_cases c67:0≤((rd_T40 t481 x16_3).f0)
                                      · rw [if_pos c67]at H;have c67b0:=decide_eq_true c67;clear c67
                                        by_cases c68:((rd_T40 t481 x16_3).f0)<(l0.length:Int)
                                        · rw [if_pos c68]at H;have c68b0:=decide_eq_true c68;clear c68
                                          by_cases c69:(rd l0 ((rd_T40 t481 x16_3).f0))<a1_3
                                          · rw[if_pos c69]at H;have c69b0:=decide_eq_true c69;clear c69;exact absurd H (by simp)
                                          · rw [if_neg c69]at H;have c69b0:=decide_eq_false c69;clear c69
                                            by_cases c70:0≤((rd_T40 t481 x16_3).f1)
                                            · rw[if_pos c70]at H;have c70b0:=decide_eq_true c70;clear c70
                                              by_cases c71:((rd_T40 t481 x16_3).f1)<(l0.length:Int)
                                              · skip
                                                as_aux_lemma=>
                                                rw[if_pos c71]at H;have c71b0:=decide_eq_true c71;clear c71;have H':=m0 H;clear H
                                                try go_wp2
                                                replace HO_9:=m0 (Kd.R_drew HO_9.out);replace HO_11:=m0 (Kd.R_drew HO_11.out);replace HO_13:=m0 (Kd.R_drew HO_13.out);replace BK463:=bd BK463;replace BK469:=bd BK469;replace BK470:=bd BK470;replace HB:=sd HB;have p492:0≤(x16_3:Int):=od;have q492:x16_3<(t481.length:Int):=od;obtain⟨ad492,e492,hx492_0,hx492_1⟩:=at_T40 (Kd.R_reads' HO_11.out).2.2 x16_3 p492 q492
                                                cases e492
                                                replace p492:=eq_true p492;replace q492:=eq_true q492;have p494:0≤(x16_3:Int):=od;have q494:x16_3<(t481.length:Int):=od;obtain⟨ad494,e494,hx494_0,hx494_1⟩:=at_T40 (Kd.R_reads' HO_11.out).2.2 x16_3 p494 q494;obtain rfl:ad492=ad494:=(by injection e494);replace p494:=eq_true p494;replace q494:=eq_true q494;have p495:0≤(x16_3:Int):=od;have q495:x16_3<(t481.length:Int):=od;obtain⟨ad495,e495,hx495_0,hx495_1⟩:=at_T40 (Kd.R_reads' HO_11.out).2.2 x16_3 p495 q495;obtain rfl:ad492=ad495:=(by injection e495);replace p495:=eq_true p495;replace q495:=eq_true q495;have p497:0≤(x16_3:Int):=od;have q497:x16_3<(t481.length:Int):=od;obtain⟨ad497,e497,hx497_0,hx497_1⟩:=at_T40 (Kd.R_reads' HO_11.out).2.2 x16_3 p497 q497;obtain rfl:ad492=ad497:=(by injection e497);replace p497:=eq_true p497;replace q497:=eq_true q497;have p498:0≤((ji63):Int):=od;have q498:(ji63)<(t481.length:Int):=od;obtain⟨ad498,e498,hx498_0,hx498_1⟩:=at_T40 (Kd.R_reads' HO_11.out).2.2 (ji63) p498 q498;obtain rfl:ad492=ad498:=(by injection e498);replace p498:=eq_true p498;replace q498:=eq_true q498;have p499:0≤(x16_3:Int):=od;have q499:x16_3<(t481.length:Int):=od;obtain⟨ad499,e499,hx499_0,hx499_1⟩:=at_T40 (Kd.R_reads' HO_11.out).2.2 x16_3 p499 q499;obtain rfl:ad492=ad499:=(by injection e499);replace p499:=eq_true p499;replace q499:=eq_true q499;have p500:0≤(((rd_T40 t481 x16_3).f0):Int):=od;have q500:((rd_T40 t481 x16_3).f0)<(l0.length:Int):=od;obtain⟨ad500,e500,hx500_0⟩:=Kd.at_int HR0.out ((rd_T40 t481 x16_3).f0) p500 q500;have hw500_0:=hx500_0
                                                cases e500
                                                replace hx500_0:=hc HB hx500_0;replace p500:=eq_true p500;replace q500:=eq_true q500;have p501:0≤(x16_3:Int):=od;have q501:x16_3<(t481.length:Int):=od;obtain⟨ad501,e501,hx501_0,hx501_1⟩:=at_T40 (Kd.R_reads' HO_11.out).2.2 x16_3 p501 q501;obtain rfl:ad492=ad501:=(by injection e501);replace p501:=eq_true p501;replace q501:=eq_true q501;have p502:0≤(((rd_T40 t481 x16_3).f1):Int):=od;have q502:((rd_T40 t481 x16_3).f1)<(l0.length:Int):=od;obtain⟨ad502,e502,hx502_0⟩:=Kd.at_int HR0.out ((rd_T40 t481 x16_3).f1) p502 q502;have hw502_0:=hx502_0;obtain rfl:ad500=ad502:=(by injection e502);replace hx502_0:=hc HB hx502_0;replace p502:=eq_true p502;replace q502:=eq_true q502;refine start_ (n:=78) (S:=fun w'=>w'.cell? ⟨gb463,0,none⟩=some (.int .i64 a1_0)∧w'.cell? ⟨gb463,1,none⟩=some (.int .i64 a1_1)∧w'.cell? ⟨gb463,2,none⟩=some (.int .i64 a1_2)∧w'.cell? ⟨gb463,3,none⟩=some (.int .i64 a1_3)∧w'.cell? ⟨gb463,4,none⟩=some (.int .i64 a1_4)∧w'.cell? ⟨gb463,5,none⟩=some (.int .i64 a1_5)∧w'.cell? (ad492.add ((x16_3).toNat*2))=some (.int .i64 ((rd_T40 t481 x16_3).f0))∧w'.cell? ⟨(ad492.add ((x16_3).toNat*2)).block,(ad492.add ((x16_3).toNat*2)).off+1,none⟩=some (.int .i64 ((rd_T40 t481 x16_3).f1))∧w'.cell? (ad492.add ((x16_3).toNat*2))=some (.int .i64 ((rd_T40 t481 x16_3).f0))∧w'.cell? ⟨(ad492.add ((x16_3).toNat*2)).block,(ad492.add ((x16_3).toNat*2)).off+1,none⟩=some (.int .i64 ((rd_T40 t481 x16_3).f1))∧w'.cell? (ad492.add ((x16_3).toNat*2))=some (.int .i64 ((rd_T40 t481 x16_3).f0))∧w'.cell? ⟨(ad492.add ((x16_3).toNat*2)).block,(ad492.add ((x16_3).toNat*2)).off+1,none⟩=some (.int .i64 ((rd_T40 t481 x16_3).f1))∧w'.cell? (ad492.add ((x16_3).toNat*2))=some (.int .i64 ((rd_T40 t481 x16_3).f0))∧w'.cell? ⟨(ad492.add ((x16_3).toNat*2)).block,(ad492.add ((x16_3).toNat*2)).off+1,none⟩=some (.int .i64 ((rd_T40 t481 x16_3).f1))∧w'.cell? (ad492.add (((ji63)).toNat*2))=some (.int .i64 ((rd_T40 t481 (ji63)).f0))∧w'.cell? ⟨(ad492.add (((ji63)).toNat*2)).block,(ad492.add (((ji63)).toNat*2)).off+1,none⟩=some (.int .i64 ((rd_T40 t481 (ji63)).f1))∧w'.cell? (ad492.add ((x16_3).toNat*2))=some (.int .i64 ((rd_T40 t481 x16_3).f0))∧w'.cell? ⟨(ad492.add ((x16_3).toNat*2)).block,(ad492.add ((x16_3).toNat*2)).off+1,none⟩=some (.int .i64 ((rd_T40 t481 x16_3).f1))∧w'.cell? (ad500.add (((rd_T40 t481 x16_3).f0)).toNat)=some (.int .i64 (rd l0 ((rd_T40 t481 x16_3).f0)))∧w'.cell? (ad492.add ((x16_3).toNat*2))=some (.int .i64 ((rd_T40 t481 x16_3).f0))∧w'.cell? ⟨(ad492.add ((x16_3).toNat*2)).block,(ad492.add ((x16_3).toNat*2)).off+1,none⟩=some (.int .i64 ((rd_T40 t481 x16_3).f1))∧w'.cell? (ad500.add (((rd_T40 t481 x16_3).f1)).toNat)=some (.int .i64 (rd l0 ((rd_T40 t481 x16_3).f1)))) (ds:=[]) _ (by kernel_rfl) rfl rfl ⟨(blk_cell BK463.out 0).trans rfl,(blk_cell BK463.out 1).trans rfl,(blk_cell BK463.out 2).trans rfl,(blk_cell BK463.out 3).trans rfl,(blk_cell BK463.out 4).trans rfl,(blk_cell BK463.out 5).trans rfl,hx492_0,hx492_1,hx494_0,hx494_1,hx495_0,hx495_1,hx497_0,hx497_1,hx498_0,hx498_1,hx499_0,hx499_1,((HB.out.cell (World.block_lt_of_cell? w _ hw500_0)).trans hw500_0),hx501_0,hx501_1,((HB.out.cell (World.block_lt_of_cell? w _ hw502_0)).trans hw502_0)⟩ (fun hH=>?_);refine with_tabW Lw_CloudApart.tab18 Lw_CloudApart.bits18 (fun HT_ HW_=>?_);generalize wr.drew=w72 at HO_9 HO_11 HO_13 BK463 BK469 BK470 HB hx492_0 hx492_1 hx494_0 hx494_1 hx495_0 hx495_1 hx497_0 hx497_1 hx498_0 hx498_1 hx499_0 hx499_1 hx500_0 hx501_0 hx501_1 hx502_0 hH ⊢;refine pZ 0 (some 102) (bs 78 1) HT_ ?_;refine pZ 1 (some 103) (bs 78 3) HT_ ?_;refine pZ 2 (some 104) (bs 78 7) HT_ ?_;refine pZ 3 (some 105) (bs 78 15) HT_ ?_;refine pZ 5 (some 107) (bs 78 47) HT_ ?_;refine pZ 6 (some 108) (bs 78 111) HT_ ?_;refine pZ 7 (some 109) (bs 78 239) HT_ ?_;refine takeZ 4 (some 106) (bs 78 255) (tw HT_ HW_) hH ?_;refine oneZ 8 (some 110) (bs 78 511) (o1 HT_) fun K hK=>?_;refine gz Tryz.func11 #[.int .i64 ((rd_T40 t481 x16_3).f0),.int .i64 0,.int .i64 (wrap64 ((l0.length:Int)-1))] ?_
                                                with_reducible refine(Bs_Within.calls ((rd_T40 t481 x16_3).f0) 0 (wrap64 ((l0.length:Int)-1)) true _ A58.out).mono ?_
                                                rintro e w' ⟨rfl,⟨nd,rfl⟩⟩;refine⟨_,rfl,?_⟩;refine hK.out _ _ ⟨(blk_cell BK463.out 0).trans rfl,(blk_cell BK463.out 1).trans rfl,(blk_cell BK463.out 2).trans rfl,(blk_cell BK463.out 3).trans rfl,(blk_cell BK463.out 4).trans rfl,(blk_cell BK463.out 5).trans rfl,hH.2.2.2.2.2.2.1,hH.2.2.2.2.2.2.2.1,hH.2.2.2.2.2.2.2.2.1,hH.2.2.2.2.2.2.2.2.2.1,hH.2.2.2.2.2.2.2.2.2.2.1,hH.2.2.2.2.2.2.2.2.2.2.2.1,hH.2.2.2.2.2.2.2.2.2.2.2.2.1,hH.2.2.2.2.2.2.2.2.2.2.2.2.2.1,hH.2.2.2.2.2.2.2.2.2.2.2.2.2.2.1,hH.2.2.2.2.2.2.2.2.2.2.2.2.2.2.2.1,hH.2.2.2.2.2.2.2.2.2.2.2.2.2.2.2.2.1,hH.2.2.2.2.2.2.2.2.2.2.2.2.2.2.2.2.2.1,((HB.out.cell (World.block_lt_of_cell? w _ hw500_0)).trans hw500_0),hH.2.2.2.2.2.2.2.2.2.2.2.2.2.2.2.2.2.2.2.1,hH.2.2.2.2.2.2.2.2.2.2.2.2.2.2.2.2.2.2.2.2.1,((HB.out.cell (World.block_lt_of_cell? w _ hw502_0)).trans hw502_0)⟩ (fun hH=>?_);clear hK K;refine nz 110 ?_;refine pZ 9 (some 111) (bs 78 1023) HT_ ?_;refine pZ 10 (some 112) (bs 78 2047) HT_ ?_;refine pZ 11 (some 113) (bs 78 4095) HT_ ?_;refine pZ 12 (some 114) (bs 78 8191) HT_ ?_;refine pZ 13 (some 115) (bs 78 16383) HT_ ?_;refine pZ 14 (some 116) (bs 78 32767) HT_ ?_;refine pZ 16 (some 118) (bs 78 98303) HT_ ?_;refine pZ 17 (some 119) (bs 78 229375) HT_ ?_;refine pZ 18 (some 120) (bs 78 491519) HT_ ?_;refine pZ 19 (some 121) (bs 78 1015807) HT_ ?_;refine pZ 21 (some 123) (bs 78 3112959) HT_ ?_;refine pZ 22 (some 124) (bs 78 7307263) HT_ ?_;refine pZ 23 (some 125) (bs 78 15695871) HT_ ?_;refine takeZ 15 (some 117) (bs 78 15728639) (tw HT_ HW_) hH ?_;refine takeZ 20 (some 122) (bs 78 16777215) (tw HT_ HW_) hH ?_;refine oneZ 24 (some 126) (bs 78 33554431) (o1 HT_) fun K hK=>?_;refine gz Tryz.func11 #[.int .i64 ((rd_T40 t481 x16_3).f1),.int .i64 ((rd_T40 t481 x16_3).f0),.int .i64 (wrap64 ((l0.length:Int)-1))] ?_
                                                with_reducible refine(Bs_Within.calls ((rd_T40 t481 x16_3).f1) ((rd_T40 t481 x16_3).f0) (wrap64 ((l0.length:Int)-1)) true _ A60.out).mono ?_
                                                rintro e w' ⟨rfl,⟨nd,rfl⟩⟩;refine⟨_,rfl,?_⟩;refine hK.out _ _ ⟨(blk_cell BK463.out 0).trans rfl,(blk_cell BK463.out 1).trans rfl,(blk_cell BK463.out 2).trans rfl,(blk_cell BK463.out 3).trans rfl,(blk_cell BK463.out 4).trans rfl,(blk_cell BK463.out 5).trans rfl,hH.2.2.2.2.2.2.1,hH.2.2.2.2.2.2.2.1,hH.2.2.2.2.2.2.2.2.1,hH.2.2.2.2.2.2.2.2.2.1,hH.2.2.2.2.2.2.2.2.2.2.1,hH.2.2.2.2.2.2.2.2.2.2.2.1,hH.2.2.2.2.2.2.2.2.2.2.2.2.1,hH.2.2.2.2.2.2.2.2.2.2.2.2.2.1,hH.2.2.2.2.2.2.2.2.2.2.2.2.2.2.1,hH.2.2.2.2.2.2.2.2.2.2.2.2.2.2.2.1,hH.2.2.2.2.2.2.2.2.2.2.2.2.2.2.2.2.1,hH.2.2.2.2.2.2.2.2.2.2.2.2.2.2.2.2.2.1,((HB.out.cell (World.block_lt_of_cell? w _ hw500_0)).trans hw500_0),hH.2.2.2.2.2.2.2.2.2.2.2.2.2.2.2.2.2.2.2.1,hH.2.2.2.2.2.2.2.2.2.2.2.2.2.2.2.2.2.2.2.2.1,((HB.out.cell (World.block_lt_of_cell? w _ hw502_0)).trans hw502_0)⟩ (fun hH=>?_);clear hK K;refine nz 126 ?_;refine pZ 25 (some 127) (bs 78 67108863) HT_ ?_;refine pZ 26 (some 128) (bs 78 134217727) HT_ ?_;refine pZ 27 (some 129) (bs 78 268435455) HT_ ?_;refine pZ 28 (some 130) (bs 78 536870911) HT_ ?_;refine pZ 29 (some 131) (bs 78 1073741823) HT_ ?_;refine pZ 30 (some 132) (bs 78 2147483647) HT_ ?_;refine pZ 31 (some 133) (bs 78 4294967295) HT_ ?_;refine pZ 32 (some 134) (bs 78 8589934591) HT_ ?_;refine pZ 33 (some 135) (bs 78 17179869183) HT_ ?_;refine pZ 34 (some 136) (bs 78 34359738367) HT_ ?_;refine pZ 36 (some 138) (bs 78 103079215103) HT_ ?_;refine pZ 37 (some 139) (bs 78 240518168575) HT_ ?_;refine pZ 38 (some 140) (bs 78 515396075519) HT_ ?_;refine pZ 39 (some 141) (bs 78 1065151889407) HT_ ?_;refine pZ 40 (some 142) (bs 78 2164663517183) HT_ ?_;refine pZ 44 (some 146) (bs 78 19756849561599) HT_ ?_;refine pZ 45 (some 147) (bs 78 54941221650431) HT_ ?_;refine takeZ 35 (some 137) (bs 78 54975581388799) (tw HT_ HW_) hH ?_;refine takeZ 41 (some 143) (bs 78 57174604644351) (tw HT_ HW_) hH ?_;refine pZ 42 (some 144) (bs 78 61572651155455) HT_ ?_;refine pZ 43 (some 145) (bs 78 70368744177663) HT_ ?_;refine takeZ 46 (some 148) (bs 78 140737488355327) (tw HT_ HW_) hH ?_;refine pZ 47 (some 149) (bs 78 281474976710655) HT_ ?_;refine pZ 48 (some 150) (bs 78 562949953421311) HT_ ?_;refine pZ 49 (some 151) (bs 78 1125899906842623) HT_ ?_;refine pZ 50 (some 152) (bs 78 2251799813685247) HT_ ?_;refine pZ 51 (some 153) (bs 78 4503599627370495) HT_ ?_;refine pZ 52 (some 154) (bs 78 9007199254740991) HT_ ?_;refine pZ 53 (some 155) (bs 78 18014398509481983) HT_ ?_;refine pZ 54 (some 156) (bs 78 36028797018963967) HT_ ?_;refine pZ 55 (some 157) (bs 78 72057594037927935) HT_ ?_;refine pZ 59 (some 161) (bs 78 648518346341351423) HT_ ?_;refine pZ 60 (some 162) (bs 78 1801439850948198399) HT_ ?_;refine takeZ 56 (some 158) (bs 78 1873497444986126335) (tw HT_ HW_) hH ?_;refine pZ 57 (some 159) (bs 78 2017612633061982207) HT_ ?_;refine takeZ 58 (some 160) (bs 78 2305843009213693951) (tw HT_ HW_) hH ?_;refine takeZ 61 (some 163) (bs 78 4611686018427387903) (tw HT_ HW_) hH ?_;refine pZ 62 (some 164) (bs 78 9223372036854775807) HT_ ?_;refine pZ 63 (some 165) (bs 78 18446744073709551615) HT_ ?_;refine pZ 64 (some 166) (bs 78 36893488147419103231) HT_ ?_;refine pZ 65 (some 167) (bs 78 73786976294838206463) HT_ ?_;refine pZ 66 (some 168) (bs 78 147573952589676412927) HT_ ?_;refine pZ 67 (some 169) (bs 78 295147905179352825855) HT_ ?_;refine pZ 68 (some 170) (bs 78 590295810358705651711) HT_ ?_;refine pZ 69 (some 171) (bs 78 1180591620717411303423) HT_ ?_;refine pZ 73 (some 175) (bs 78 10625324586456701730815) HT_ ?_;refine pZ 74 (some 176) (bs 78 29514790517935282585599) HT_ ?_;refine takeZ 70 (some 172) (bs 78 30695382138652693889023) (tw HT_ HW_) hH ?_;refine pZ 71 (some 173) (bs 78 33056565380087516495871) HT_ ?_;refine takeZ 72 (some 174) (bs 78 37778931862957161709567) (tw HT_ HW_) hH ?_;refine takeZ 75 (some 177) (bs 78 75557863725914323419135) (tw HT_ HW_) hH ?_;refine pZ 76 (some 178) (bs 78 151115727451828646838271) HT_ ?_;refine pZ 77 (some 179) (bs 78 302231454903657293676543) HT_ ?_;refine done_ (done_of HT_.out (by kernel_rfl)) ?_
                                                try go_wp2
                                                go_meet
                                                case rel=>exact⟨_,(decide ((rd l0 ((rd_T40 t481 x16_3).f1))<a1_3)),rz,H',⟨by have:=HJ5.out;have:=HJ27.out;have:=HK3.out;first|omega|exact Nat.le_refl _⟩,⟨br HO_9.out⟩,⟨br HO_11.out⟩,⟨br HO_13.out⟩,⟨bk BK463.out⟩,⟨bk BK469.out⟩,⟨bk BK470.out⟩,⟨bz⟩⟩
                                              · rw[if_neg c71]at H;exact absurd H (by simp)
                                            · rw[if_neg c70]at H;exact absurd H (by simp)
                                        · rw[if_neg c68]at H;exact absurd H (by simp)
                                      · rw[if_neg c67]at H;exact absurd H (by simp)
                                  · rw[if_neg c65]at H;exact absurd H (by simp)
                                · rw[if_neg c64]at H;exact absurd H (by simp)
                              · rw [if_neg c62]at H;have c62b0:=decide_eq_false c62;clear c62
                                by_cases c73:0≤((rd_T40 t481 x16_3).f0)
                                · rw [if_pos c73]at H;have c73b0:=decide_eq_true c73;clear c73
                                  by_cases c74:((rd_T40 t481 x16_3).f0)<(l0.length:Int)
                                  · rw [if_pos c74]at H;have c74b0:=decide_eq_true c74;clear c74
                                    by_cases c75:(rd l0 ((rd_T40 t481 x16_3).f0))<a1_3
                                    · rw[if_pos c75]at H;have c75b0:=decide_eq_true c75;clear c75;exact absurd H (by simp)
                                    · rw [if_neg c75]at H;have c75b0:=decide_eq_false c75;clear c75
                                      by_cases c76:0≤((rd_T40 t481 x16_3).f1)
                                      · rw[if_pos c76]at H;have c76b0:=decide_eq_true c76;clear c76
                                        by_cases c77:((rd_T40 t481 x16_3).f1)<(l0.length:Int)
                                        · skip
                                          as_aux_lemma=>
                                          rw[if_pos c77]at H;have c77b0:=decide_eq_true c77;clear c77;have H':=m0 H;clear H
                                          try go_wp2
                                          replace HO_9:=m0 (Kd.R_drew HO_9.out);replace HO_11:=m0 (Kd.R_drew HO_11.out);replace HO_13:=m0 (Kd.R_drew HO_13.out);replace BK463:=bd BK463;replace BK469:=bd BK469;replace BK470:=bd BK470;replace HB:=sd HB;have p492:0≤(x16_3:Int):=od;have q492:x16_3<(t481.length:Int):=od;obtain⟨ad492,e492,hx492_0,hx492_1⟩:=at_T40 (Kd.R_reads' HO_11.out).2.2 x16_3 p492 q492
                                          cases e492
                                          replace p492:=eq_true p492;replace q492:=eq_true q492;have p494:0≤(x16_3:Int):=od;have q494:x16_3<(t481.length:Int):=od;obtain⟨ad494,e494,hx494_0,hx494_1⟩:=at_T40 (Kd.R_reads' HO_11.out).2.2 x16_3 p494 q494;obtain rfl:ad492=ad494:=(by injection e494);replace p494:=eq_true p494;replace q494:=eq_true q494;have p495:0≤(x16_3:Int):=od;have q495:x16_3<(t481.length:Int):=od;obtain⟨ad495,e495,hx495_0,hx495_1⟩:=at_T40 (Kd.R_reads' HO_11.out).2.2 x16_3 p495 q495;obtain rfl:ad492=ad495:=(by injection e495);replace p495:=eq_true p495;replace q495:=eq_true q495;have p503:0≤(x16_3:Int):=od;have q503:x16_3<(t481.length:Int):=od;obtain⟨ad503,e503,hx503_0,hx503_1⟩:=at_T40 (Kd.R_reads' HO_11.out).2.2 x16_3 p503 q503;obtain rfl:ad492=ad503:=(by injection e503);replace p503:=eq_true p503;replace q503:=eq_true q503;have p504:0≤(((rd_T40 t481 x16_3).f0):Int):=od;have q504:((rd_T40 t481 x16_3).f0)<(l0.length:Int):=od;obtain⟨ad504,e504,hx504_0⟩:=Kd.at_int HR0.out ((rd_T40 t481 x16_3).f0) p504 q504;have hw504_0:=hx504_0
                                          cases e504
                                          replace hx504_0:=hc HB hx504_0;replace p504:=eq_true p504;replace q504:=eq_true q504;have p505:0≤(x16_3:Int):=od;have q505:x16_3<(t481.length:Int):=od;obtain⟨ad505,e505,hx505_0,hx505_1⟩:=at_T40 (Kd.R_reads' HO_11.out).2.2 x16_3 p505 q505;obtain rfl:ad492=ad505:=(by injection e505);replace p505:=eq_true p505;replace q505:=eq_true q505;have p506:0≤(((rd_T40 t481 x16_3).f1):Int):=od;have q506:((rd_T40 t481 x16_3).f1)<(l0.length:Int):=od;obtain⟨ad506,e506,hx506_0⟩:=Kd.at_int HR0.out ((rd_T40 t481 x16_3).f1) p506 q506;have hw506_0:=hx506_0;obtain rfl:ad504=ad506:=(by injection e506);replace hx506_0:=hc HB hx506_0;replace p506:=eq_true p506;replace q506:=eq_true q506;refine start_ (n:=78) (S:=fun w'=>w'.cell? ⟨gb463,0,none⟩=some (.int .i64 a1_0)∧w'.cell? ⟨gb463,1,none⟩=some (.int .i64 a1_1)∧w'.cell? ⟨gb463,2,none⟩=some (.int .i64 a1_2)∧w'.cell? ⟨gb463,3,none⟩=some (.int .i64 a1_3)∧w'.cell? ⟨gb463,4,none⟩=some (.int .i64 a1_4)∧w'.cell? ⟨gb463,5,none⟩=some (.int .i64 a1_5)∧w'.cell? (ad492.add ((x16_3).toNat*2))=some (.int .i64 ((rd_T40 t481 x16_3).f0))∧w'.cell? ⟨(ad492.add ((x16_3).toNat*2)).block,(ad492.add ((x16_3).toNat*2)).off+1,none⟩=some (.int .i64 ((rd_T40 t481 x16_3).f1))∧w'.cell? (ad492.add ((x16_3).toNat*2))=some (.int .i64 ((rd_T40 t481 x16_3).f0))∧w'.cell? ⟨(ad492.add ((x16_3).toNat*2)).block,(ad492.add ((x16_3).toNat*2)).off+1,none⟩=some (.int .i64 ((rd_T40 t481 x16_3).f1))∧w'.cell? (ad492.add ((x16_3).toNat*2))=some (.int .i64 ((rd_T40 t481 x16_3).f0))∧w'.cell? ⟨(ad492.add ((x16_3).toNat*2)).block,(ad492.add ((x16_3).toNat*2)).off+1,none⟩=some (.int .i64 ((rd_T40 t481 x16_3).f1))∧w'.cell? (ad492.add ((x16_3).toNat*2))=some (.int .i64 ((rd_T40 t481 x16_3).f0))∧w'.cell? ⟨(ad492.add ((x16_3).toNat*2)).block,(ad492.add ((x16_3).toNat*2)).off+1,none⟩=some (.int .i64 ((rd_T40 t481 x16_3).f1))∧w'.cell? (ad504.add (((rd_T40 t481 x16_3).f0)).toNat)=some (.int .i64 (rd l0 ((rd_T40 t481 x16_3).f0)))∧w'.cell? (ad492.add ((x16_3).toNat*2))=some (.int .i64 ((rd_T40 t481 x16_3).f0))∧w'.cell? ⟨(ad492.add ((x16_3).toNat*2)).block,(ad492.add ((x16_3).toNat*2)).off+1,none⟩=some (.int .i64 ((rd_T40 t481 x16_3).f1))∧w'.cell? (ad504.add (((rd_T40 t481 x16_3).f1)).toNat)=some (.int .i64 (rd l0 ((rd_T40 t481 x16_3).f1)))) (ds:=[]) _ (by kernel_rfl) rfl rfl ⟨(blk_cell BK463.out 0).trans rfl,(blk_cell BK463.out 1).trans rfl,(blk_cell BK463.out 2).trans rfl,(blk_cell BK463.out 3).trans rfl,(blk_cell BK463.out 4).trans rfl,(blk_cell BK463.out 5).trans rfl,hx492_0,hx492_1,hx494_0,hx494_1,hx495_0,hx495_1,hx503_0,hx503_1,((HB.out.cell (World.block_lt_of_cell? w _ hw504_0)).trans hw504_0),hx505_0,hx505_1,((HB.out.cell (World.block_lt_of_cell? w _ hw506_0)).trans hw506_0)⟩ (fun hH=>?_);refine with_tabW Lw_CloudApart.tab18 Lw_CloudApart.bits18 (fun HT_ HW_=>?_);generalize wr.drew=w78 at HO_9 HO_11 HO_13 BK463 BK469 BK470 HB hx492_0 hx492_1 hx494_0 hx494_1 hx495_0 hx495_1 hx503_0 hx503_1 hx504_0 hx505_0 hx505_1 hx506_0 hH ⊢;refine pZ 0 (some 102) (bs 78 1) HT_ ?_;refine pZ 1 (some 103) (bs 78 3) HT_ ?_;refine pZ 2 (some 104) (bs 78 7) HT_ ?_;refine pZ 3 (some 105) (bs 78 15) HT_ ?_;refine pZ 5 (some 107) (bs 78 47) HT_ ?_;refine pZ 6 (some 108) (bs 78 111) HT_ ?_;refine pZ 7 (some 109) (bs 78 239) HT_ ?_;refine takeZ 4 (some 106) (bs 78 255) (tw HT_ HW_) hH ?_;refine oneZ 8 (some 110) (bs 78 511) (o1 HT_) fun K hK=>?_;refine gz Tryz.func11 #[.int .i64 ((rd_T40 t481 x16_3).f0),.int .i64 0,.int .i64 (wrap64 ((l0.length:Int)-1))] ?_
                                          with_reducible refine(Bs_Within.calls ((rd_T40 t481 x16_3).f0) 0 (wrap64 ((l0.length:Int)-1)) true _ A58.out).mono ?_
                                          rintro e w' ⟨rfl,⟨nd,rfl⟩⟩;refine⟨_,rfl,?_⟩;refine hK.out _ _ ⟨(blk_cell BK463.out 0).trans rfl,(blk_cell BK463.out 1).trans rfl,(blk_cell BK463.out 2).trans rfl,(blk_cell BK463.out 3).trans rfl,(blk_cell BK463.out 4).trans rfl,(blk_cell BK463.out 5).trans rfl,hH.2.2.2.2.2.2.1,hH.2.2.2.2.2.2.2.1,hH.2.2.2.2.2.2.2.2.1,hH.2.2.2.2.2.2.2.2.2.1,hH.2.2.2.2.2.2.2.2.2.2.1,hH.2.2.2.2.2.2.2.2.2.2.2.1,hH.2.2.2.2.2.2.2.2.2.2.2.2.1,hH.2.2.2.2.2.2.2.2.2.2.2.2.2.1,((HB.out.cell (World.block_lt_of_cell? w _ hw504_0)).trans hw504_0),hH.2.2.2.2.2.2.2.2.2.2.2.2.2.2.2.1,hH.2.2.2.2.2.2.2.2.2.2.2.2.2.2.2.2.1,((HB.out.cell (World.block_lt_of_cell? w _ hw506_0)).trans hw506_0)⟩ (fun hH=>?_);clear hK K;refine nz 110 ?_;refine pZ 9 (some 111) (bs 78 1023) HT_ ?_;refine pZ 10 (some 112) (bs 78 2047) HT_ ?_;refine pZ 11 (some 113) (bs 78 4095) HT_ ?_;refine pZ 12 (some 114) (bs 78 8191) HT_ ?_;refine pZ 13 (some 115) (bs 78 16383) HT_ ?_;refine pZ 14 (some 116) (bs 78 32767) HT_ ?_;refine pZ 16 (some 118) (bs 78 98303) HT_ ?_;refine pZ 17 (some 119) (bs 78 229375) HT_ ?_;refine pZ 18 (some 120) (bs 78 491519) HT_ ?_;refine pZ 19 (some 121) (bs 78 1015807) HT_ ?_;refine pZ 21 (some 123) (bs 78 3112959) HT_ ?_;refine pZ 22 (some 124) (bs 78 7307263) HT_ ?_;refine pZ 23 (some 125) (bs 78 15695871) HT_ ?_;refine takeZ 15 (some 117) (bs 78 15728639) (tw HT_ HW_) hH ?_;refine takeZ 20 (some 122) (bs 78 16777215) (tw HT_ HW_) hH ?_;refine oneZ 24 (some 126) (bs 78 33554431) (o1 HT_) fun K hK=>?_;refine gz Tryz.func11 #[.int .i64 ((rd_T40 t481 x16_3).f1),.int .i64 ((rd_T40 t481 x16_3).f0),.int .i64 (wrap64 ((l0.length:Int)-1))] ?_
                                          with_reducible refine(Bs_Within.calls ((rd_T40 t481 x16_3).f1) ((rd_T40 t481 x16_3).f0) (wrap64 ((l0.length:Int)-1)) true _ A60.out).mono ?_
                                          rintro e w' ⟨rfl,⟨nd,rfl⟩⟩;refine⟨_,rfl,?_⟩;refine hK.out _ _ ⟨(blk_cell BK463.out 0).trans rfl,(blk_cell BK463.out 1).trans rfl,(blk_cell BK463.out 2).trans rfl,(blk_cell BK463.out 3).trans rfl,(blk_cell BK463.out 4).trans rfl,(blk_cell BK463.out 5).trans rfl,hH.2.2.2.2.2.2.1,hH.2.2.2.2.2.2.2.1,hH.2.2.2.2.2.2.2.2.1,hH.2.2.2.2.2.2.2.2.2.1,hH.2.2.2.2.2.2.2.2.2.2.1,hH.2.2.2.2.2.2.2.2.2.2.2.1,hH.2.2.2.2.2.2.2.2.2.2.2.2.1,hH.2.2.2.2.2.2.2.2.2.2.2.2.2.1,((HB.out.cell (World.block_lt_of_cell? w _ hw504_0)).trans hw504_0),hH.2.2.2.2.2.2.2.2.2.2.2.2.2.2.2.1,hH.2.2.2.2.2.2.2.2.2.2.2.2.2.2.2.2.1,((HB.out.cell (World.block_lt_of_cell? w _ hw506_0)).trans hw506_0)⟩ (fun hH=>?_);clear hK K;refine nz 126 ?_;refine pZ 25 (some 127) (bs 78 67108863) HT_ ?_;refine pZ 26 (some 128) (bs 78 134217727) HT_ ?_;refine pZ 27 (some 129) (bs 78 268435455) HT_ ?_;refine pZ 28 (some 130) (bs 78 536870911) HT_ ?_;refine pZ 29 (some 131) (bs 78 1073741823) HT_ ?_;refine pZ 30 (some 132) (bs 78 2147483647) HT_ ?_;refine pure_ (i:=31) (N:=some 133) (v:=undef) (a':=?_) (bs 78 4294967295) rfl rfl (any_of HT_.out (by kernel_rfl)) (fun _ _ _ h=>h) (Or.inr ⟨by rfl,rfl⟩) ?_ ?_;rotate_left
                                          · exact pz
                                          refine pure_ (i:=32) (N:=some 134) (v:=undef) (a':=?_) (bs 78 8589934591) rfl rfl (any_of HT_.out (by kernel_rfl)) (fun _ _ _ h=>h) (Or.inr ⟨by rfl,rfl⟩) ?_ ?_;rotate_left
                                          · exact pz
                                          refine pure_ (i:=33) (N:=some 135) (v:=undef) (a':=?_) (bs 78 17179869183) rfl rfl (any_of HT_.out (by kernel_rfl)) (fun _ _ _ h=>h) (Or.inr ⟨by rfl,rfl⟩) ?_ ?_;rotate_left
                                          · exact pz
                                          refine pure_ (i:=34) (N:=some 136) (v:=undef) (a':=?_) (bs 78 34359738367) rfl rfl (any_of HT_.out (by kernel_rfl)) (fun _ _ _ h=>h) (Or.inr ⟨by rfl,rfl⟩) ?_ ?_;rotate_left
                                          · exact pz
                                          refine pure_ (i:=35) (N:=some 137) (v:=undef) (a':=?_) (bs 78 68719476735) rfl rfl (any_of HT_.out (by kernel_rfl)) (fun _ _ _ h=>h) (Or.inr ⟨by rfl,rfl⟩) ?_ ?_;rotate_left
                                          · exact pz
                                          refine pure_ (i:=36) (N:=some 138) (v:=undef) (a':=?_) (bs 78 137438953471) rfl rfl (any_of HT_.out (by kernel_rfl)) (fun _ _ _ h=>h) (Or.inr ⟨by rfl,rfl⟩) ?_ ?_;rotate_left
                                          · exact pz
                                          refine pure_ (i:=37) (N:=some 139) (v:=undef) (a':=?_) (bs 78 274877906943) rfl rfl (any_of HT_.out (by kernel_rfl)) (fun _ _ _ h=>h) (Or.inr ⟨by rfl,rfl⟩) ?_ ?_;rotate_left
                                          · exact pz
                                          refine pure_ (i:=38) (N:=some 140) (v:=undef) (a':=?_) (bs 78 549755813887) rfl rfl (any_of HT_.out (by kernel_rfl)) (fun _ _ _ h=>h) (Or.inr ⟨by rfl,rfl⟩) ?_ ?_;rotate_left
                                          · exact pz
                                          refine pure_ (i:=39) (N:=some 141) (v:=undef) (a':=?_) (bs 78 1099511627775) rfl rfl (any_of HT_.out (by kernel_rfl)) (fun _ _ _ h=>h) (Or.inr ⟨by rfl,rfl⟩) ?_ ?_;rotate_left
                                          · exact pz
                                          refine pure_ (i:=40) (N:=some 142) (v:=undef) (a':=?_) (bs 78 2199023255551) rfl rfl (any_of HT_.out (by kernel_rfl)) (fun _ _ _ h=>h) (Or.inr ⟨by rfl,rfl⟩) ?_ ?_;rotate_left
                                          · exact pz
                                          refine pure_ (i:=41) (N:=some 143) (v:=undef) (a':=?_) (bs 78 4398046511103) rfl rfl (any_of HT_.out (by kernel_rfl)) (fun _ _ _ h=>h) (Or.inr ⟨by rfl,rfl⟩) ?_ ?_;rotate_left
                                          · exact pz
                                          refine pure_ (i:=42) (N:=some 144) (v:=undef) (a':=?_) (bs 78 8796093022207) rfl rfl (any_of HT_.out (by kernel_rfl)) (fun _ _ _ h=>h) (Or.inr ⟨by rfl,rfl⟩) ?_ ?_;rotate_left
                                          · exact pz
                                          refine pure_ (i:=43) (N:=some 145) (v:=undef) (a':=?_) (bs 78 17592186044415) rfl rfl (any_of HT_.out (by kernel_rfl)) (fun _ _ _ h=>h) (Or.inr ⟨by rfl,rfl⟩) ?_ ?_;rotate_left
                                          · exact pz
                                          refine pure_ (i:=44) (N:=some 146) (v:=undef) (a':=?_) (bs 78 35184372088831) rfl rfl (any_of HT_.out (by kernel_rfl)) (fun _ _ _ h=>h) (Or.inr ⟨by rfl,rfl⟩) ?_ ?_;rotate_left
                                          · exact pz
                                          refine pure_ (i:=45) (N:=some 147) (v:=undef) (a':=?_) (bs 78 70368744177663) rfl rfl (any_of HT_.out (by kernel_rfl)) (fun _ _ _ h=>h) (Or.inr ⟨by rfl,rfl⟩) ?_ ?_;rotate_left
                                          · exact pz
                                          refine pure_ (i:=46) (N:=some 148) (v:=undef) (a':=?_) (bs 78 140737488355327) rfl rfl (any_of HT_.out (by kernel_rfl)) (fun _ _ _ h=>h) (Or.inr ⟨by rfl,rfl⟩) ?_ ?_;rotate_left
                                          · exact pz
                                          refine pure_ (i:=47) (N:=some 149) (v:=undef) (a':=?_) (bs 78 281474976710655) rfl rfl (any_of HT_.out (by kernel_rfl)) (fun _ _ _ h=>h) (Or.inr ⟨by rfl,rfl⟩) ?_ ?_;rotate_left
                                          · exact pz
                                          refine pZ 48 (some 150) (bs 78 562949953421311) HT_ ?_;refine pZ 49 (some 151) (bs 78 1125899906842623) HT_ ?_;refine pZ 50 (some 152) (bs 78 2251799813685247) HT_ ?_;refine pZ 51 (some 153) (bs 78 4503599627370495) HT_ ?_;refine pZ 52 (some 154) (bs 78 9007199254740991) HT_ ?_;refine pZ 53 (some 155) (bs 78 18014398509481983) HT_ ?_;refine pZ 54 (some 156) (bs 78 36028797018963967) HT_ ?_;refine pZ 55 (some 157) (bs 78 72057594037927935) HT_ ?_;refine pZ 59 (some 161) (bs 78 648518346341351423) HT_ ?_;refine pZ 60 (some 162) (bs 78 1801439850948198399) HT_ ?_;refine takeZ 56 (some 158) (bs 78 1873497444986126335) (tw HT_ HW_) hH ?_;refine pZ 57 (some 159) (bs 78 2017612633061982207) HT_ ?_;refine takeZ 58 (some 160) (bs 78 2305843009213693951) (tw HT_ HW_) hH ?_;refine takeZ 61 (some 163) (bs 78 4611686018427387903) (tw HT_ HW_) hH ?_;refine pZ 62 (some 164) (bs 78 9223372036854775807) HT_ ?_;refine pZ 63 (some 165) (bs 78 18446744073709551615) HT_ ?_;refine pZ 64 (some 166) (bs 78 36893488147419103231) HT_ ?_;refine pZ 65 (some 167) (bs 78 73786976294838206463) HT_ ?_;refine pZ 66 (some 168) (bs 78 147573952589676412927) HT_ ?_;refine pZ 67 (some 169) (bs 78 295147905179352825855) HT_ ?_;refine pZ 68 (some 170) (bs 78 590295810358705651711) HT_ ?_;refine pZ 69 (some 171) (bs 78 1180591620717411303423) HT_ ?_;refine pZ 73 (some 175) (bs 78 10625324586456701730815) HT_ ?_;refine pZ 74 (some 176) (bs 78 29514790517935282585599) HT_ ?_;refine takeZ 70 (some 172) (bs 78 30695382138652693889023) (tw HT_ HW_) hH ?_;refine pZ 71 (some 173) (bs 78 33056565380087516495871) HT_ ?_;refine takeZ 72 (some 174) (bs 78 37778931862957161709567) (tw HT_ HW_) hH ?_;refine takeZ 75 (some 177) (bs 78 75557863725914323419135) (tw HT_ HW_) hH ?_;refine pZ 76 (some 178) (bs 78 151115727451828646838271) HT_ ?_;refine pZ 77 (some 179) (bs 78 302231454903657293676543) HT_ ?_;refine done_ (done_of HT_.out (by kernel_rfl)) ?_
                                          try go_wp2
                                          go_meet
                                          case rel=>exact⟨_,(decide ((rd l0 ((rd_T40 t481 x16_3).f1))<a1_3)),rz,H',⟨by have:=HJ5.out;have:=HJ27.out;have:=HK3.out;first|omega|exact Nat.le_refl _⟩,⟨br HO_9.out⟩,⟨br HO_11.out⟩,⟨br HO_13.out⟩,⟨bk BK463.out⟩,⟨bk BK469.out⟩,⟨bk BK470.out⟩,⟨bz⟩⟩
                                        · rw[if_neg c77]at H;exact absurd H (by simp)
                                      · rw[if_neg c76]at H;exact absurd H (by simp)
                                  · rw[if_neg c74]at H;exact absurd H (by simp)
                                · rw[if_neg c73]at H;exact absurd H (by simp)
                            · replace c61:=Bool.eq_false_iff.mpr c61;subst c61;rw[if_neg (show ¬ (false=true) by decide)]at H;exact absurd H (by simp)
                          · replace c59:=Bool.eq_false_iff.mpr c59;subst c59;rw[if_neg (show ¬ (false=true) by decide)]at H;exact absurd H (by simp)
                        · rw[if_neg c57]at H;exact absurd H (by simp)
                      case rest =>
                        as_aux_lemma=>
                        clear HC55
                        try clear hx4
                        try clear hx5
                        try clear hx49
                        try clear hx50
                        try clear hx492_0
                        try clear hx492_1
                        try clear hx494_0
                        try clear hx494_1
                        try clear hx495_0
                        try clear hx495_1
                        try clear hx503_0
                        try clear hx503_1
                        try clear hx504_0
                        try clear hx505_0
                        try clear hx505_1
                        try clear hx506_0
                        obtain⟨kq,x179_54,rfl,HA,HJ54,HO_9,HO_11,HO_13,BK463,BK469,BK470,HB⟩:=hcut
                        cases kq with
                        |zero=>exact absurd HA.out (by simp[Lw_CloudApart.j3])
                        | succ kj54 =>
                          have H:=HA.out;clear HA;simp only[Lw_CloudApart.j3]at H
                          by_cases c79:x179_54=true
                          · subst c79;rw[if_pos rfl]at H;exact absurd H (by simp)
                          · replace c79 := Bool.eq_false_iff.mpr c79;subst c79;rw[if_neg (show ¬ (false=true) by decide)]at H
                            by_cases c80:0≤x16_3
                            · rw [if_pos c80] at H;have c80b0:=decide_eq_true c80;clear c80
                              by_cases c81:x16_3<(t481.length:Int)
                              · skip
                                as_aux_lemma=>
                                rw[if_pos c81]at H;have c81b0:=decide_eq_true c81;clear c81;have H':=m0 H;clear H;have p507:0≤(x16_3:Int):=od;have q507:x16_3<(t481.length:Int):=od;obtain⟨ad507,e507,hx507_0,hx507_1⟩:=at_T40 (Kd.R_reads' HO_11.out).2.2 x16_3 p507 q507
                                cases e507
                                replace p507:=eq_true p507;replace q507:=eq_true q507
                                go_wp2
                                go_loopg [15,17,18] kj54 (fun kq v15 v17 v18 w'=>∃ (x15_5:Int) (x17_5:Int) (x18_5:Int),v15= .int .i64 x15_5∧v17= .int .i64 x17_5∧v18= .int .i64 x18_5∧Aside0 (Lw_CloudApart.l1 kq l0 t474 t481 t488 x15_5 x16_3 x17_5 x18_5 a1_0 a1_1 a1_2 a1_3 a1_4 a1_5=some r)∧Aside0 (kq≤kj54)∧Aside0 (Kd.R k40 40 w' w.heap.size (fun k_=>some k_≠((.slice (some ad507) t481.length co56):Value).ownBlock∧some k_≠(v489:Value).ownBlock) v475 t474)∧Aside0 (Kd.R k40 40 w' w.heap.size (fun k_=>some k_≠(v475:Value).ownBlock∧some k_≠(v489:Value).ownBlock) (.slice (some ad507) t481.length co56) t481)∧Aside0 (Kd.R k40 40 w' w.heap.size (fun k_=>some k_≠(v475:Value).ownBlock∧some k_≠((.slice (some ad507) t481.length co56):Value).ownBlock) v489 t488)∧Aside0 (w'.heap[gb463]?=some (.cells #[.int .i64 a1_0,.int .i64 a1_1,.int .i64 a1_2,.int .i64 a1_3,.int .i64 a1_4,.int .i64 a1_5] 28 (0,0)))∧Aside0 (w'.heap[gb469]?=some (.cells #[.int .i64 a1_3,.int .i64 a1_4,.int .i64 1] 26 (0,0)))∧Aside0 (w'.heap[gb470]?=some (.cells #[.int .i64 (wrap64 (a1_3-a2)),.int .i64 a1_4,.int .i64 a1_5] 26 (0,0)))∧Aside0 (Below w.heap.size w w'))
                                case atStart=>exact⟨(x15_3),(0),((rd_T40 t481 x16_3).f0),rz,rz,rz,H',⟨Nat.le_refl _⟩,⟨br HO_9.out⟩,⟨br HO_11.out⟩,⟨br HO_13.out⟩,⟨bk BK463.out⟩,⟨bk BK469.out⟩,⟨bk BK470.out⟩,⟨bz⟩⟩
                                case round =>
                                  as_aux_lemma=>
                                  clear H'
                                  try clear hx4
                                  try clear hx5
                                  try clear hx49
                                  try clear hx50
                                  try clear hx492_0
                                  try clear hx492_1
                                  try clear hx494_0
                                  try clear hx494_1
                                  try clear hx495_0
                                  try clear hx495_1
                                  try clear hx503_0
                                  try clear hx503_1
                                  try clear hx504_0
                                  try clear hx505_0
                                  try clear hx505_1
                                  try clear hx506_0
                                  try clear hx507_0
                                  try clear hx507_1
                                  obtain⟨x15_5,x17_5,x18_5,rfl,rfl,rfl,HA,HK5,HO_9,HO_11,HO_13,BK463,BK469,BK470,HB⟩:=hrel
                                  cases gk with
                                  |zero=>exact absurd HA.out (by simp[Lw_CloudApart.l1])
                                  | succ k5 =>
                                    have H:=HA.out;clear HA;simp only[Lw_CloudApart.l1]at H
                                    by_cases c82:0≤x16_3
                                    · rw [if_pos c82]at H;have c82b0:=decide_eq_true c82;clear c82
                                      by_cases c83:x16_3<(t481.length:Int)
                                      · rw [if_pos c83]at H;have c83b0:=decide_eq_true c83;clear c83
                                        by_cases c84:x18_5≤((rd_T40 t481 x16_3).f1)
                                        · skip
                                          as_aux_lemma=>
                                          rw[if_pos c84]at H;have c84b0:=decide_eq_true c84;clear c84
                                          by_cases c85:0≤x18_5
                                          · rw [if_pos c85]at H;have c85b0:=decide_eq_true c85;clear c85
                                            by_cases c86:x18_5<(l0.length:Int)
                                            · rw [if_pos c86]at H;have c86b0:=decide_eq_true c86;clear c86
                                              by_cases c87:(rd l0 x18_5)≥a1_3
                                              · rw[if_pos c87]at H;have c87b0:=decide_eq_true c87;clear c87
                                                by_cases c88:0>a1_4
                                                · rw[if_pos c88]at H;exact absurd H (by simp)
                                                · skip
                                                  as_aux_lemma=>
                                                  rw[if_neg c88]at H;have c88b0:=decide_eq_false c88;clear c88;have H':=m0 H;clear H;have p508:0≤(x16_3:Int):=od;have q508:x16_3<(t481.length:Int):=od;obtain⟨ad508,e508,hx508_0,hx508_1⟩:=at_T40 (Kd.R_reads' HO_11.out).2.2 x16_3 p508 q508;obtain rfl:ad507=ad508:=(by injection e508);replace p508:=eq_true p508;replace q508:=eq_true q508
                                                  try go_wp2
                                                  replace HO_9:=m0 (Kd.R_drew HO_9.out);replace HO_11:=m0 (Kd.R_drew HO_11.out);replace HO_13:=m0 (Kd.R_drew HO_13.out);replace BK463:=bd BK463;replace BK469:=bd BK469;replace BK470:=bd BK470;replace HB:=sd HB;have p509:0≤(x18_5:Int):=od;have q509:x18_5<(l0.length:Int):=od;obtain⟨ad509,e509,hx509_0⟩:=Kd.at_int HR0.out x18_5 p509 q509;have hw509_0:=hx509_0
                                                  cases e509
                                                  replace hx509_0:=hc HB hx509_0;replace p509:=eq_true p509;replace q509:=eq_true q509;refine start_ (n:=8) (S:=fun w'=>w'.cell? ⟨gb463,0,none⟩=some (.int .i64 a1_0)∧w'.cell? ⟨gb463,1,none⟩=some (.int .i64 a1_1)∧w'.cell? ⟨gb463,2,none⟩=some (.int .i64 a1_2)∧w'.cell? ⟨gb463,3,none⟩=some (.int .i64 a1_3)∧w'.cell? ⟨gb463,4,none⟩=some (.int .i64 a1_4)∧w'.cell? ⟨gb463,5,none⟩=some (.int .i64 a1_5)∧w'.cell? (ad509.add (x18_5).toNat)=some (.int .i64 (rd l0 x18_5))) (ds:=[]) _ (by kernel_rfl) rfl rfl ⟨(blk_cell BK463.out 0).trans rfl,(blk_cell BK463.out 1).trans rfl,(blk_cell BK463.out 2).trans rfl,(blk_cell BK463.out 3).trans rfl,(blk_cell BK463.out 4).trans rfl,(blk_cell BK463.out 5).trans rfl,((HB.out.cell (World.block_lt_of_cell? w _ hw509_0)).trans hw509_0)⟩ (fun hH=>?_);refine with_tabW Lw_CloudApart.tab25 Lw_CloudApart.bits25 (fun HT_ HW_=>?_);generalize wr.drew=w89 at HO_9 HO_11 HO_13 BK463 BK469 BK470 HB hx509_0 hH ⊢;refine pZ 0 (some 196) #[true,false,false,false,false,false,false,false] HT_ ?_;refine pZ 1 (some 197) #[true,true,false,false,false,false,false,false] HT_ ?_;refine pZ 2 (some 198) #[true,true,true,false,false,false,false,false] HT_ ?_;refine pZ 4 (some 200) #[true,true,true,false,true,false,false,false] HT_ ?_;refine pZ 5 (some 201) #[true,true,true,false,true,true,false,false] HT_ ?_;refine takeZ 3 (some 199) #[true,true,true,true,true,true,false,false] (tw HT_ HW_) hH ?_;refine takeZ 6 (some 202) #[true,true,true,true,true,true,true,false] (tw HT_ HW_) hH ?_;refine pZ 7 (some 203) #[true,true,true,true,true,true,true,true] HT_ ?_;refine done_ (done_of HT_.out (by kernel_rfl)) ?_;have hnb90:=NB463_469.out;have hnc90:=NB469_463.out;have hnb91:=NB463_470.out;have hnc91:=NB470_463.out;obtain⟨hcz92_0,hcz92_1,hcz92_2,hcz92_3,hcz92_4,hcz92_5,hfz92_0,hfz92_1,hfz92_2,hfz92_3,hfz92_4,hfz92_5⟩:=b6 BK463
                                                  try go_wp2
                                                  go_roundg k5
                                                  case measure=>have:=HJ5.out;have:=HJ27.out;have:=HK3.out;have:=HJ54.out;have:=HK5.out;omega
                                                  case rel=>exact⟨(wrap64 (x15_5+1)),(0),(wrap64 (x18_5+1)),rz,rz,rz,H',⟨by have:=HJ5.out;have:=HJ27.out;have:=HK3.out;have:=HJ54.out;have:=HK5.out;omega⟩,⟨br HO_9.out⟩,⟨br HO_11.out⟩,⟨br HO_13.out⟩,⟨bk BK463.out⟩,⟨bk BK469.out⟩,⟨bk BK470.out⟩,⟨bz⟩⟩
                                              · rw[if_neg c87]at H;have c87b0:=decide_eq_false c87;clear c87
                                                by_cases c93:(wrap64 (x17_5+1))>a1_4
                                                · rw[if_pos c93]at H;exact absurd H (by simp)
                                                · skip
                                                  as_aux_lemma=>
                                                  rw[if_neg c93]at H;have c93b0:=decide_eq_false c93;clear c93;have H':=m0 H;clear H;have p508:0≤(x16_3:Int):=od;have q508:x16_3<(t481.length:Int):=od;obtain⟨ad508,e508,hx508_0,hx508_1⟩:=at_T40 (Kd.R_reads' HO_11.out).2.2 x16_3 p508 q508;obtain rfl:ad507=ad508:=(by injection e508);replace p508:=eq_true p508;replace q508:=eq_true q508
                                                  try go_wp2
                                                  replace HO_9:=m0 (Kd.R_drew HO_9.out);replace HO_11:=m0 (Kd.R_drew HO_11.out);replace HO_13:=m0 (Kd.R_drew HO_13.out);replace BK463:=bd BK463;replace BK469:=bd BK469;replace BK470:=bd BK470;replace HB:=sd HB;have p509:0≤(x18_5:Int):=od;have q509:x18_5<(l0.length:Int):=od;obtain⟨ad509,e509,hx509_0⟩:=Kd.at_int HR0.out x18_5 p509 q509;have hw509_0:=hx509_0
                                                  cases e509
                                                  replace hx509_0:=hc HB hx509_0;replace p509:=eq_true p509;replace q509:=eq_true q509;refine start_ (n:=8) (S:=fun w'=>w'.cell? ⟨gb463,0,none⟩=some (.int .i64 a1_0)∧w'.cell? ⟨gb463,1,none⟩=some (.int .i64 a1_1)∧w'.cell? ⟨gb463,2,none⟩=some (.int .i64 a1_2)∧w'.cell? ⟨gb463,3,none⟩=some (.int .i64 a1_3)∧w'.cell? ⟨gb463,4,none⟩=some (.int .i64 a1_4)∧w'.cell? ⟨gb463,5,none⟩=some (.int .i64 a1_5)∧w'.cell? (ad509.add (x18_5).toNat)=some (.int .i64 (rd l0 x18_5))) (ds:=[]) _ (by kernel_rfl) rfl rfl ⟨(blk_cell BK463.out 0).trans rfl,(blk_cell BK463.out 1).trans rfl,(blk_cell BK463.out 2).trans rfl,(blk_cell BK463.out 3).trans rfl,(blk_cell BK463.out 4).trans rfl,(blk_cell BK463.out 5).trans rfl,((HB.out.cell (World.block_lt_of_cell? w _ hw509_0)).trans hw509_0)⟩ (fun hH=>?_);refine with_tabW Lw_CloudApart.tab25 Lw_CloudApart.bits25 (fun HT_ HW_=>?_);generalize wr.drew=w94 at HO_9 HO_11 HO_13 BK463 BK469 BK470 HB hx509_0 hH ⊢;refine pZ 0 (some 196) #[true,false,false,false,false,false,false,false] HT_ ?_;refine pZ 1 (some 197) #[true,true,false,false,false,false,false,false] HT_ ?_;refine pZ 2 (some 198) #[true,true,true,false,false,false,false,false] HT_ ?_;refine pZ 4 (some 200) #[true,true,true,false,true,false,false,false] HT_ ?_;refine pZ 5 (some 201) #[true,true,true,false,true,true,false,false] HT_ ?_;refine takeZ 3 (some 199) #[true,true,true,true,true,true,false,false] (tw HT_ HW_) hH ?_;refine takeZ 6 (some 202) #[true,true,true,true,true,true,true,false] (tw HT_ HW_) hH ?_;refine pZ 7 (some 203) #[true,true,true,true,true,true,true,true] HT_ ?_;refine done_ (done_of HT_.out (by kernel_rfl)) ?_;have hnb95:=NB463_469.out;have hnc95:=NB469_463.out;have hnb96:=NB463_470.out;have hnc96:=NB470_463.out;obtain⟨hcz97_0,hcz97_1,hcz97_2,hcz97_3,hcz97_4,hcz97_5,hfz97_0,hfz97_1,hfz97_2,hfz97_3,hfz97_4,hfz97_5⟩:=b6 BK463
                                                  try go_wp2
                                                  go_roundg k5
                                                  case measure=>have:=HJ5.out;have:=HJ27.out;have:=HK3.out;have:=HJ54.out;have:=HK5.out;omega
                                                  case rel=>exact⟨(x15_5),(wrap64 (x17_5+1)),(wrap64 (x18_5+1)),rz,rz,rz,H',⟨by have:=HJ5.out;have:=HJ27.out;have:=HK3.out;have:=HJ54.out;have:=HK5.out;omega⟩,⟨br HO_9.out⟩,⟨br HO_11.out⟩,⟨br HO_13.out⟩,⟨bk BK463.out⟩,⟨bk BK469.out⟩,⟨bk BK470.out⟩,⟨bz⟩⟩
                                            · rw[if_neg c86]at H;exact absurd H (by simp)
                                          · rw[if_neg c85]at H;exact absurd H (by simp)
                                        · skip
                                          as_aux_lemma=>
                                          rw[if_neg c84]at H;have c84b0:=decide_eq_false c84;clear c84;have H':=m0 H;clear H;have p508:0≤(x16_3:Int):=od;have q508:x16_3<(t481.length:Int):=od;obtain⟨ad508,e508,hx508_0,hx508_1⟩:=at_T40 (Kd.R_reads' HO_11.out).2.2 x16_3 p508 q508;obtain rfl:ad507=ad508:=(by injection e508);replace p508:=eq_true p508;replace q508:=eq_true q508
                                          go_wp2
                                          go_roundg k5
                                          case measure=>have:=HJ5.out;have:=HJ27.out;have:=HK3.out;have:=HJ54.out;have:=HK5.out;omega
                                          case rel=>exact⟨(x15_5),(wrap64 (x16_3+1)),rz,rz,H',⟨by have:=HJ5.out;have:=HJ27.out;have:=HK3.out;have:=HJ54.out;have:=HK5.out;omega⟩,⟨br HO_9.out⟩,⟨br HO_11.out⟩,⟨br HO_13.out⟩,⟨bk BK463.out⟩,⟨bk BK469.out⟩,⟨bk BK470.out⟩,⟨bz⟩⟩
                                      · rw[if_neg c83]at H;exact absurd H (by simp)
                                    · rw[if_neg c82]at H;exact absurd H (by simp)
                              · rw[if_neg c81]at H;exact absurd H (by simp)
                            · rw[if_neg c80]at H;exact absurd H (by simp)
                    · rw [if_neg c54] at H; have c54b0 := decide_eq_false c54;clear c54;have H':=m0 H;clear H;obtain⟨Ao98,co98,eo98⟩:=Kd.R_slice HO_11.out;subst eo98
                      go_wp2
                      go_loopg [15,19] k3 (fun kq v15 v19 w'=>∃ (x15_4:Int) (x19_4:Int),v15= .int .i64 x15_4∧v19= .int .i64 x19_4∧Aside0 (Lw_CloudApart.l2 kq l0 t474 t481 t488 x15_4 x19_4 a1_0 a1_1 a1_2 a1_3 a1_4 a1_5=some r)∧Aside0 (kq≤k3)∧Aside0 (Kd.R k40 40 w' w.heap.size (fun k_=>some k_≠((.slice Ao98 t481.length co98):Value).ownBlock∧some k_≠(v489:Value).ownBlock) v475 t474)∧Aside0 (Kd.R k40 40 w' w.heap.size (fun k_=>some k_≠(v475:Value).ownBlock∧some k_≠(v489:Value).ownBlock) (.slice Ao98 t481.length co98) t481)∧Aside0 (Kd.R k40 40 w' w.heap.size (fun k_=>some k_≠(v475:Value).ownBlock∧some k_≠((.slice Ao98 t481.length co98):Value).ownBlock) v489 t488)∧Aside0 (w'.heap[gb463]?=some (.cells #[.int .i64 a1_0,.int .i64 a1_1,.int .i64 a1_2,.int .i64 a1_3,.int .i64 a1_4,.int .i64 a1_5] 28 (0,0)))∧Aside0 (w'.heap[gb469]?=some (.cells #[.int .i64 a1_3,.int .i64 a1_4,.int .i64 1] 26 (0,0)))∧Aside0 (w'.heap[gb470]?=some (.cells #[.int .i64 (wrap64 (a1_3-a2)),.int .i64 a1_4,.int .i64 a1_5] 26 (0,0)))∧Aside0 (Below w.heap.size w w'))
                      case atStart=>exact⟨(x15_3),(0),rz,rz,H',⟨Nat.le_refl _⟩,⟨br HO_9.out⟩,⟨br HO_11.out⟩,⟨br HO_13.out⟩,⟨bk BK463.out⟩,⟨bk BK469.out⟩,⟨bk BK470.out⟩,⟨bz⟩⟩
                      case round =>
                        as_aux_lemma=>
                        clear H'
                        try clear hx4
                        try clear hx5
                        try clear hx49
                        try clear hx50
                        try clear hcz92_0
                        try clear hcz92_1
                        try clear hcz92_2
                        try clear hcz92_3
                        try clear hcz92_4
                        try clear hcz92_5
                        try clear hcz97_0
                        try clear hcz97_1
                        try clear hcz97_2
                        try clear hcz97_3
                        try clear hcz97_4
                        try clear hcz97_5
                        try clear hfz92_0
                        try clear hfz92_1
                        try clear hfz92_2
                        try clear hfz92_3
                        try clear hfz92_4
                        try clear hfz92_5
                        try clear hfz97_0
                        try clear hfz97_1
                        try clear hfz97_2
                        try clear hfz97_3
                        try clear hfz97_4
                        try clear hfz97_5
                        try clear hx492_0
                        try clear hx492_1
                        try clear hx494_0
                        try clear hx494_1
                        try clear hx495_0
                        try clear hx495_1
                        try clear hx503_0
                        try clear hx503_1
                        try clear hx504_0
                        try clear hx505_0
                        try clear hx505_1
                        try clear hx506_0
                        try clear hx507_0
                        try clear hx507_1
                        try clear hx508_0
                        try clear hx508_1
                        try clear hx509_0
                        obtain⟨x15_4,x19_4,rfl,rfl,HA,HK4,HO_9,HO_11,HO_13,BK463,BK469,BK470,HB⟩:=hrel
                        cases gk with
                        |zero=>exact absurd HA.out (by simp[Lw_CloudApart.l2])
                        | succ k4 =>
                          have H:=HA.out;clear HA;simp only[Lw_CloudApart.l2]at H
                          by_cases c99:x19_4<(l0.length:Int)
                          · rw [if_pos c99]at H;have c99b0:=decide_eq_true c99;clear c99
                            by_cases c100:0≤x19_4
                            · rw[if_pos c100]at H;have c100b0:=decide_eq_true c100;clear c100
                              by_cases c101:(rd l0 x19_4)≥a1_3
                              · skip
                                as_aux_lemma=>
                                rw[if_pos c101]at H;have c101b0:=decide_eq_true c101;clear c101;have H':=m0 H;clear H
                                try go_wp2
                                replace HO_9:=m0 (Kd.R_drew HO_9.out);replace HO_11:=m0 (Kd.R_drew HO_11.out);replace HO_13:=m0 (Kd.R_drew HO_13.out);replace BK463:=bd BK463;replace BK469:=bd BK469;replace BK470:=bd BK470;replace HB:=sd HB;have p510:0≤(x19_4:Int):=od;have q510:x19_4<(l0.length:Int):=od;obtain⟨ad510,e510,hx510_0⟩:=Kd.at_int HR0.out x19_4 p510 q510;have hw510_0:=hx510_0
                                cases e510
                                replace hx510_0:=hc HB hx510_0;replace p510:=eq_true p510;replace q510:=eq_true q510;refine start_ (n:=8) (S:=fun w'=>w'.cell? ⟨gb463,0,none⟩=some (.int .i64 a1_0)∧w'.cell? ⟨gb463,1,none⟩=some (.int .i64 a1_1)∧w'.cell? ⟨gb463,2,none⟩=some (.int .i64 a1_2)∧w'.cell? ⟨gb463,3,none⟩=some (.int .i64 a1_3)∧w'.cell? ⟨gb463,4,none⟩=some (.int .i64 a1_4)∧w'.cell? ⟨gb463,5,none⟩=some (.int .i64 a1_5)∧w'.cell? (ad510.add (x19_4).toNat)=some (.int .i64 (rd l0 x19_4))) (ds:=[]) _ (by kernel_rfl) rfl rfl ⟨(blk_cell BK463.out 0).trans rfl,(blk_cell BK463.out 1).trans rfl,(blk_cell BK463.out 2).trans rfl,(blk_cell BK463.out 3).trans rfl,(blk_cell BK463.out 4).trans rfl,(blk_cell BK463.out 5).trans rfl,((HB.out.cell (World.block_lt_of_cell? w _ hw510_0)).trans hw510_0)⟩ (fun hH=>?_);refine with_tabW Lw_CloudApart.tab32 Lw_CloudApart.bits32 (fun HT_ HW_=>?_);generalize wr.drew=w102 at HO_9 HO_11 HO_13 BK463 BK469 BK470 HB hx510_0 hH ⊢;refine pZ 0 (some 217) #[true,false,false,false,false,false,false,false] HT_ ?_;refine pZ 1 (some 218) #[true,true,false,false,false,false,false,false] HT_ ?_;refine pZ 2 (some 219) #[true,true,true,false,false,false,false,false] HT_ ?_;refine pZ 4 (some 221) #[true,true,true,false,true,false,false,false] HT_ ?_;refine pZ 5 (some 222) #[true,true,true,false,true,true,false,false] HT_ ?_;refine takeZ 3 (some 220) #[true,true,true,true,true,true,false,false] (tw HT_ HW_) hH ?_;refine takeZ 6 (some 223) #[true,true,true,true,true,true,true,false] (tw HT_ HW_) hH ?_;refine pZ 7 (some 224) #[true,true,true,true,true,true,true,true] HT_ ?_;refine done_ (done_of HT_.out (by kernel_rfl)) ?_
                                try go_wp2
                                go_roundg k4
                                case measure=>have:=HJ5.out;have:=HJ27.out;have:=HK3.out;have:=HK4.out;omega
                                case rel=>exact⟨(wrap64 (x15_4-1)),(wrap64 (x19_4+1)),rz,rz,H',⟨by have:=HJ5.out;have:=HJ27.out;have:=HK3.out;have:=HK4.out;omega⟩,⟨br HO_9.out⟩,⟨br HO_11.out⟩,⟨br HO_13.out⟩,⟨bk BK463.out⟩,⟨bk BK469.out⟩,⟨bk BK470.out⟩,⟨bz⟩⟩
                              · skip
                                as_aux_lemma=>
                                rw[if_neg c101]at H;have c101b0:=decide_eq_false c101;clear c101;have H':=m0 H;clear H
                                try go_wp2
                                replace HO_9:=m0 (Kd.R_drew HO_9.out);replace HO_11:=m0 (Kd.R_drew HO_11.out);replace HO_13:=m0 (Kd.R_drew HO_13.out);replace BK463:=bd BK463;replace BK469:=bd BK469;replace BK470:=bd BK470;replace HB:=sd HB;have p510:0≤(x19_4:Int):=od;have q510:x19_4<(l0.length:Int):=od;obtain⟨ad510,e510,hx510_0⟩:=Kd.at_int HR0.out x19_4 p510 q510;have hw510_0:=hx510_0
                                cases e510
                                replace hx510_0:=hc HB hx510_0;replace p510:=eq_true p510;replace q510:=eq_true q510;refine start_ (n:=8) (S:=fun w'=>w'.cell? ⟨gb463,0,none⟩=some (.int .i64 a1_0)∧w'.cell? ⟨gb463,1,none⟩=some (.int .i64 a1_1)∧w'.cell? ⟨gb463,2,none⟩=some (.int .i64 a1_2)∧w'.cell? ⟨gb463,3,none⟩=some (.int .i64 a1_3)∧w'.cell? ⟨gb463,4,none⟩=some (.int .i64 a1_4)∧w'.cell? ⟨gb463,5,none⟩=some (.int .i64 a1_5)∧w'.cell? (ad510.add (x19_4).toNat)=some (.int .i64 (rd l0 x19_4))) (ds:=[]) _ (by kernel_rfl) rfl rfl ⟨(blk_cell BK463.out 0).trans rfl,(blk_cell BK463.out 1).trans rfl,(blk_cell BK463.out 2).trans rfl,(blk_cell BK463.out 3).trans rfl,(blk_cell BK463.out 4).trans rfl,(blk_cell BK463.out 5).trans rfl,((HB.out.cell (World.block_lt_of_cell? w _ hw510_0)).trans hw510_0)⟩ (fun hH=>?_);refine with_tabW Lw_CloudApart.tab32 Lw_CloudApart.bits32 (fun HT_ HW_=>?_);generalize wr.drew=w103 at HO_9 HO_11 HO_13 BK463 BK469 BK470 HB hx510_0 hH ⊢;refine pZ 0 (some 217) #[true,false,false,false,false,false,false,false] HT_ ?_;refine pZ 1 (some 218) #[true,true,false,false,false,false,false,false] HT_ ?_;refine pZ 2 (some 219) #[true,true,true,false,false,false,false,false] HT_ ?_;refine pZ 4 (some 221) #[true,true,true,false,true,false,false,false] HT_ ?_;refine pZ 5 (some 222) #[true,true,true,false,true,true,false,false] HT_ ?_;refine takeZ 3 (some 220) #[true,true,true,true,true,true,false,false] (tw HT_ HW_) hH ?_;refine takeZ 6 (some 223) #[true,true,true,true,true,true,true,false] (tw HT_ HW_) hH ?_;refine pZ 7 (some 224) #[true,true,true,true,true,true,true,true] HT_ ?_;refine done_ (done_of HT_.out (by kernel_rfl)) ?_
                                try go_wp2
                                go_roundg k4
                                case measure=>have:=HJ5.out;have:=HJ27.out;have:=HK3.out;have:=HK4.out;omega
                                case rel=>exact⟨(x15_4),(wrap64 (x19_4+1)),rz,rz,H',⟨by have:=HJ5.out;have:=HJ27.out;have:=HK3.out;have:=HK4.out;omega⟩,⟨br HO_9.out⟩,⟨br HO_11.out⟩,⟨br HO_13.out⟩,⟨bk BK463.out⟩,⟨bk BK469.out⟩,⟨bk BK470.out⟩,⟨bz⟩⟩
                            · rw[if_neg c100]at H;exact absurd H (by simp)
                          · rw [if_neg c99] at H; have c99b0:=decide_eq_false c99;clear c99
                            by_cases c104:x15_4=0
                            · rw [if_pos c104] at H; have c104b0:=beq_iff_eq.mpr c104;have c104b1:=bne_eq_false_iff_eq.mpr c104;clear c104;have H':=m0 H;clear H
                              go_wp2
                              go_loopg [20] k4 (fun kq v20 w'=>∃ (x20_5:Int),v20= .int .i64 x20_5∧Aside0 (Lw_CloudApart.l3 kq l0 t474 t481 t488 x20_5 a1_0 a1_1 a1_2 a1_3 a1_4 a1_5=some r)∧Aside0 (kq≤k4)∧Aside0 (Kd.R k40 40 w' w.heap.size (fun k_=>some k_≠((.slice Ao98 t481.length co98):Value).ownBlock∧some k_≠(v489:Value).ownBlock) v475 t474)∧Aside0 (Kd.R k40 40 w' w.heap.size (fun k_=>some k_≠(v475:Value).ownBlock∧some k_≠(v489:Value).ownBlock) (.slice Ao98 t481.length co98) t481)∧Aside0 (Kd.R k40 40 w' w.heap.size (fun k_=>some k_≠(v475:Value).ownBlock∧some k_≠((.slice Ao98 t481.length co98):Value).ownBlock) v489 t488)∧Aside0 (w'.heap[gb463]?=some (.cells #[.int .i64 a1_0,.int .i64 a1_1,.int .i64 a1_2,.int .i64 a1_3,.int .i64 a1_4,.int .i64 a1_5] 28 (0,0)))∧Aside0 (w'.heap[gb469]?=some (.cells #[.int .i64 a1_3,.int .i64 a1_4,.int .i64 1] 26 (0,0)))∧Aside0 (w'.heap[gb470]?=some (.cells #[.int .i64 (wrap64 (a1_3-a2)),.int .i64 a1_4,.int .i64 a1_5] 26 (0,0)))∧Aside0 (Below w.heap.size w w'))
                              case atStart=>exact⟨(0),rz,H',⟨Nat.le_refl _⟩,⟨br HO_9.out⟩,⟨br HO_11.out⟩,⟨br HO_13.out⟩,⟨bk BK463.out⟩,⟨bk BK469.out⟩,⟨bk BK470.out⟩,⟨bz⟩⟩
                              case round =>
                                as_aux_lemma=>
                                clear H'
                                try clear hx4
                                try clear hx5
                                try clear hx49
                                try clear hx50
                                try clear hx51
                                try clear hcz92_0
                                try clear hcz92_1
                                try clear hcz92_2
                                try clear hcz92_3
                                try clear hcz92_4
                                try clear hcz92_5
                                try clear hcz97_0
                                try clear hcz97_1
                                try clear hcz97_2
                                try clear hcz97_3
                                try clear hcz97_4
                                try clear hcz97_5
                                try clear hfz92_0
                                try clear hfz92_1
                                try clear hfz92_2
                                try clear hfz92_3
                                try clear hfz92_4
                                try clear hfz92_5
                                try clear hfz97_0
                                try clear hfz97_1
                                try clear hfz97_2
                                try clear hfz97_3
                                try clear hfz97_4
                                try clear hfz97_5
                                try clear hx492_0
                                try clear hx492_1
                                try clear hx494_0
                                try clear hx494_1
                                try clear hx495_0
                                try clear hx495_1
                                try clear hx503_0
                                try clear hx503_1
                                try clear hx504_0
                                try clear hx505_0
                                try clear hx505_1
                                try clear hx506_0
                                try clear hx507_0
                                try clear hx507_1
                                try clear hx508_0
                                try clear hx508_1
                                try clear hx509_0
                                try clear hx510_0
                                obtain⟨x20_5,rfl,HA,HK5,HO_9,HO_11,HO_13,BK463,BK469,BK470,HB⟩:=hrel
                                cases gk with
                                |zero=>exact absurd HA.out (by simp[Lw_CloudApart.l3])
                                | succ k5 =>
                                  have H:=HA.out;clear HA;simp only[Lw_CloudApart.l3]at H
                                  by_cases c105:x20_5<(t474.length:Int)
                                  · rw [if_pos c105] at H;have c105b0:=decide_eq_true c105;clear c105;have H':=m0 H;clear H;obtain⟨Ao106,co106,eo106⟩:=Kd.R_slice HO_9.out;subst eo106
                                    go_wp2
                                    go_loopg [21,23] k5 (fun kq v21 v23 w'=>∃ (x21_6:Bool) (x23_6:Int),v21= .bool x21_6∧v23= .int .i64 x23_6∧Aside0 (Lw_CloudApart.l4 kq l0 t474 t481 t488 x20_5 x21_6 false x23_6 a1_0 a1_1 a1_2 a1_3 a1_4 a1_5=some r)∧Aside0 (kq≤k5)∧Aside0 (Kd.R k40 40 w' w.heap.size (fun k_=>some k_≠((.slice Ao98 t481.length co98):Value).ownBlock∧some k_≠(v489:Value).ownBlock) (.slice Ao106 t474.length co106) t474)∧Aside0 (Kd.R k40 40 w' w.heap.size (fun k_=>some k_≠((.slice Ao106 t474.length co106):Value).ownBlock∧some k_≠(v489:Value).ownBlock) (.slice Ao98 t481.length co98) t481)∧Aside0 (Kd.R k40 40 w' w.heap.size (fun k_=>some k_≠((.slice Ao106 t474.length co106):Value).ownBlock∧some k_≠((.slice Ao98 t481.length co98):Value).ownBlock) v489 t488)∧Aside0 (w'.heap[gb463]?=some (.cells #[.int .i64 a1_0,.int .i64 a1_1,.int .i64 a1_2,.int .i64 a1_3,.int .i64 a1_4,.int .i64 a1_5] 28 (0,0)))∧Aside0 (w'.heap[gb469]?=some (.cells #[.int .i64 a1_3,.int .i64 a1_4,.int .i64 1] 26 (0,0)))∧Aside0 (w'.heap[gb470]?=some (.cells #[.int .i64 (wrap64 (a1_3-a2)),.int .i64 a1_4,.int .i64 a1_5] 26 (0,0)))∧Aside0 (Below w.heap.size w w'))
                                    case atStart=>exact⟨(false),(0),rz,rz,H',⟨Nat.le_refl _⟩,⟨br HO_9.out⟩,⟨br HO_11.out⟩,⟨br HO_13.out⟩,⟨bk BK463.out⟩,⟨bk BK469.out⟩,⟨bk BK470.out⟩,⟨bz⟩⟩
                                    case round =>
                                      as_aux_lemma=>
                                      clear H'
                                      try clear hx4
                                      try clear hx5
                                      try clear hx49
                                      try clear hx50
                                      try clear hx51
                                      try clear hcz92_0
                                      try clear hcz92_1
                                      try clear hcz92_2
                                      try clear hcz92_3
                                      try clear hcz92_4
                                      try clear hcz92_5
                                      try clear hcz97_0
                                      try clear hcz97_1
                                      try clear hcz97_2
                                      try clear hcz97_3
                                      try clear hcz97_4
                                      try clear hcz97_5
                                      try clear hfz92_0
                                      try clear hfz92_1
                                      try clear hfz92_2
                                      try clear hfz92_3
                                      try clear hfz92_4
                                      try clear hfz92_5
                                      try clear hfz97_0
                                      try clear hfz97_1
                                      try clear hfz97_2
                                      try clear hfz97_3
                                      try clear hfz97_4
                                      try clear hfz97_5
                                      try clear hx492_0
                                      try clear hx492_1
                                      try clear hx494_0
                                      try clear hx494_1
                                      try clear hx495_0
                                      try clear hx495_1
                                      try clear hx503_0
                                      try clear hx503_1
                                      try clear hx504_0
                                      try clear hx505_0
                                      try clear hx505_1
                                      try clear hx506_0
                                      try clear hx507_0
                                      try clear hx507_1
                                      try clear hx508_0
                                      try clear hx508_1
                                      try clear hx509_0
                                      try clear hx510_0
                                      obtain⟨x21_6,x23_6,rfl,rfl,HA,HK6,HO_9,HO_11,HO_13,BK463,BK469,BK470,HB⟩:=hrel
                                      cases gk with
                                      |zero=>exact absurd HA.out (by simp[Lw_CloudApart.l4])
                                      | succ k6 =>
                                        have H:=HA.out;clear HA;simp only[Lw_CloudApart.l4]at H
                                        by_cases c107:x23_6<(t481.length:Int)
                                        · skip
                                          as_aux_lemma=>
                                          rw[if_pos c107]at H;have c107b0:=decide_eq_true c107;clear c107
                                          by_cases c108:x21_6=true
                                          · skip
                                            as_aux_lemma=>
                                            subst c108;rw[if_pos rfl]at H;have H':=m0 H;clear H
                                            try go_wp2
                                            replace HO_9:=m0 (Kd.R_drew HO_9.out);replace HO_11:=m0 (Kd.R_drew HO_11.out);replace HO_13:=m0 (Kd.R_drew HO_13.out);replace BK463:=bd BK463;replace BK469:=bd BK469;replace BK470:=bd BK470;replace HB:=sd HB;refine start_ (n:=31) (S:=fun w'=>True) (ds:=[]) _ (by kernel_rfl) rfl rfl trivial (fun hH=>?_);refine with_tabW Lw_CloudApart.tab43 Lw_CloudApart.bits43 (fun HT_ HW_=>?_);generalize wr.drew=w109 at HO_9 HO_11 HO_13 BK463 BK469 BK470 HB hH ⊢;refine pZ 0 (some 241) (bs 31 1) HT_ ?_;refine pZ 1 (some 242) (bs 31 3) HT_ ?_;refine pure_ (i:=2) (N:=some 243) (v:=undef) (a':=?_) (bs 31 7) rfl rfl (any_of HT_.out (by kernel_rfl)) (fun _ _ _ h=>h) (Or.inr ⟨by rfl,rfl⟩) ?_ ?_;rotate_left
                                            · exact pz
                                            refine pure_ (i:=3) (N:=some 244) (v:=undef) (a':=?_) (bs 31 15) rfl rfl (any_of HT_.out (by kernel_rfl)) (fun _ _ _ h=>h) (Or.inr ⟨by rfl,rfl⟩) ?_ ?_;rotate_left
                                            · exact pz
                                            refine pure_ (i:=4) (N:=some 245) (v:=undef) (a':=?_) (bs 31 31) rfl rfl (any_of HT_.out (by kernel_rfl)) (fun _ _ _ h=>h) (Or.inr ⟨by rfl,rfl⟩) ?_ ?_;rotate_left
                                            · exact pz
                                            refine pure_ (i:=5) (N:=some 246) (v:=undef) (a':=?_) (bs 31 63) rfl rfl (any_of HT_.out (by kernel_rfl)) (fun _ _ _ h=>h) (Or.inr ⟨by rfl,rfl⟩) ?_ ?_;rotate_left
                                            · exact pz
                                            refine pure_ (i:=6) (N:=some 247) (v:=undef) (a':=?_) (bs 31 127) rfl rfl (any_of HT_.out (by kernel_rfl)) (fun _ _ _ h=>h) (Or.inr ⟨by rfl,rfl⟩) ?_ ?_;rotate_left
                                            · exact pz
                                            refine pure_ (i:=7) (N:=some 248) (v:=undef) (a':=?_) (bs 31 255) rfl rfl (any_of HT_.out (by kernel_rfl)) (fun _ _ _ h=>h) (Or.inr ⟨by rfl,rfl⟩) ?_ ?_;rotate_left
                                            · exact pz
                                            refine pure_ (i:=8) (N:=some 249) (v:=undef) (a':=?_) (bs 31 511) rfl rfl (any_of HT_.out (by kernel_rfl)) (fun _ _ _ h=>h) (Or.inr ⟨by rfl,rfl⟩) ?_ ?_;rotate_left
                                            · exact pz
                                            refine pure_ (i:=9) (N:=some 250) (v:=undef) (a':=?_) (bs 31 1023) rfl rfl (any_of HT_.out (by kernel_rfl)) (fun _ _ _ h=>h) (Or.inr ⟨by rfl,rfl⟩) ?_ ?_;rotate_left
                                            · exact pz
                                            refine pure_ (i:=10) (N:=some 251) (v:=undef) (a':=?_) (bs 31 2047) rfl rfl (any_of HT_.out (by kernel_rfl)) (fun _ _ _ h=>h) (Or.inr ⟨by rfl,rfl⟩) ?_ ?_;rotate_left
                                            · exact pz
                                            refine pure_ (i:=11) (N:=some 252) (v:=undef) (a':=?_) (bs 31 4095) rfl rfl (any_of HT_.out (by kernel_rfl)) (fun _ _ _ h=>h) (Or.inr ⟨by rfl,rfl⟩) ?_ ?_;rotate_left
                                            · exact pz
                                            refine pure_ (i:=12) (N:=some 253) (v:=undef) (a':=?_) (bs 31 8191) rfl rfl (any_of HT_.out (by kernel_rfl)) (fun _ _ _ h=>h) (Or.inr ⟨by rfl,rfl⟩) ?_ ?_;rotate_left
                                            · exact pz
                                            refine pure_ (i:=13) (N:=some 254) (v:=undef) (a':=?_) (bs 31 16383) rfl rfl (any_of HT_.out (by kernel_rfl)) (fun _ _ _ h=>h) (Or.inr ⟨by rfl,rfl⟩) ?_ ?_;rotate_left
                                            · exact pz
                                            refine pure_ (i:=14) (N:=some 255) (v:=undef) (a':=?_) (bs 31 32767) rfl rfl (any_of HT_.out (by kernel_rfl)) (fun _ _ _ h=>h) (Or.inr ⟨by rfl,rfl⟩) ?_ ?_;rotate_left
                                            · exact pz
                                            refine pure_ (i:=15) (N:=some 256) (v:=undef) (a':=?_) (bs 31 65535) rfl rfl (any_of HT_.out (by kernel_rfl)) (fun _ _ _ h=>h) (Or.inr ⟨by rfl,rfl⟩) ?_ ?_;rotate_left
                                            · exact pz
                                            refine pure_ (i:=16) (N:=some 257) (v:=undef) (a':=?_) (bs 31 131071) rfl rfl (any_of HT_.out (by kernel_rfl)) (fun _ _ _ h=>h) (Or.inr ⟨by rfl,rfl⟩) ?_ ?_;rotate_left
                                            · exact pz
                                            refine pure_ (i:=17) (N:=some 258) (v:=undef) (a':=?_) (bs 31 262143) rfl rfl (any_of HT_.out (by kernel_rfl)) (fun _ _ _ h=>h) (Or.inr ⟨by rfl,rfl⟩) ?_ ?_;rotate_left
                                            · exact pz
                                            refine pure_ (i:=18) (N:=some 259) (v:=undef) (a':=?_) (bs 31 524287) rfl rfl (any_of HT_.out (by kernel_rfl)) (fun _ _ _ h=>h) (Or.inr ⟨by rfl,rfl⟩) ?_ ?_;rotate_left
                                            · exact pz
                                            refine pure_ (i:=19) (N:=some 260) (v:=undef) (a':=?_) (bs 31 1048575) rfl rfl (any_of HT_.out (by kernel_rfl)) (fun _ _ _ h=>h) (Or.inr ⟨by rfl,rfl⟩) ?_ ?_;rotate_left
                                            · exact pz
                                            refine pure_ (i:=20) (N:=some 261) (v:=undef) (a':=?_) (bs 31 2097151) rfl rfl (any_of HT_.out (by kernel_rfl)) (fun _ _ _ h=>h) (Or.inr ⟨by rfl,rfl⟩) ?_ ?_;rotate_left
                                            · exact pz
                                            refine pure_ (i:=21) (N:=some 262) (v:=undef) (a':=?_) (bs 31 4194303) rfl rfl (any_of HT_.out (by kernel_rfl)) (fun _ _ _ h=>h) (Or.inr ⟨by rfl,rfl⟩) ?_ ?_;rotate_left
                                            · exact pz
                                            refine pure_ (i:=22) (N:=some 263) (v:=undef) (a':=?_) (bs 31 8388607) rfl rfl (any_of HT_.out (by kernel_rfl)) (fun _ _ _ h=>h) (Or.inr ⟨by rfl,rfl⟩) ?_ ?_;rotate_left
                                            · exact pz
                                            refine pure_ (i:=23) (N:=some 264) (v:=undef) (a':=?_) (bs 31 16777215) rfl rfl (any_of HT_.out (by kernel_rfl)) (fun _ _ _ h=>h) (Or.inr ⟨by rfl,rfl⟩) ?_ ?_;rotate_left
                                            · exact pz
                                            refine pure_ (i:=24) (N:=some 265) (v:=undef) (a':=?_) (bs 31 33554431) rfl rfl (any_of HT_.out (by kernel_rfl)) (fun _ _ _ h=>h) (Or.inr ⟨by rfl,rfl⟩) ?_ ?_;rotate_left
                                            · exact pz
                                            refine pure_ (i:=25) (N:=some 266) (v:=undef) (a':=?_) (bs 31 67108863) rfl rfl (any_of HT_.out (by kernel_rfl)) (fun _ _ _ h=>h) (Or.inr ⟨by rfl,rfl⟩) ?_ ?_;rotate_left
                                            · exact pz
                                            refine pure_ (i:=26) (N:=some 267) (v:=undef) (a':=?_) (bs 31 134217727) rfl rfl (any_of HT_.out (by kernel_rfl)) (fun _ _ _ h=>h) (Or.inr ⟨by rfl,rfl⟩) ?_ ?_;rotate_left
                                            · exact pz
                                            refine pure_ (i:=27) (N:=some 268) (v:=undef) (a':=?_) (bs 31 268435455) rfl rfl (any_of HT_.out (by kernel_rfl)) (fun _ _ _ h=>h) (Or.inr ⟨by rfl,rfl⟩) ?_ ?_;rotate_left
                                            · exact pz
                                            refine pure_ (i:=28) (N:=some 269) (v:=undef) (a':=?_) (bs 31 536870911) rfl rfl (any_of HT_.out (by kernel_rfl)) (fun _ _ _ h=>h) (Or.inr ⟨by rfl,rfl⟩) ?_ ?_;rotate_left
                                            · exact pz
                                            refine pZ 29 (some 270) (bs 31 1073741823) HT_ ?_;refine pZ 30 (some 21) (bs 31 2147483647) HT_ ?_;refine done_ (done_of HT_.out (by kernel_rfl)) ?_
                                            try go_wp2
                                            go_roundg k6
                                            case measure=>have:=HJ5.out;have:=HJ27.out;have:=HK3.out;have:=HK4.out;have:=HK5.out;have:=HK6.out;omega
                                            case rel=>exact⟨(true),(wrap64 (x23_6+1)),rz,rz,H',⟨by have:=HJ5.out;have:=HJ27.out;have:=HK3.out;have:=HK4.out;have:=HK5.out;have:=HK6.out;omega⟩,⟨br HO_9.out⟩,⟨br HO_11.out⟩,⟨br HO_13.out⟩,⟨bk BK463.out⟩,⟨bk BK469.out⟩,⟨bk BK470.out⟩,⟨bz⟩⟩
                                          · replace c108:=Bool.eq_false_iff.mpr c108;subst c108;rw[if_neg (show ¬ (false=true) by decide)]at H
                                            by_cases c110:0≤x20_5
                                            · rw [if_pos c110]at H;have c110b0:=decide_eq_true c110;clear c110
                                              by_cases c111:x20_5<(t474.length:Int)
                                              · rw [if_pos c111]at H;have c111b0:=decide_eq_true c111;clear c111
                                                by_cases c112:0≤x23_6
                                                · rw[if_pos c112]at H;have c112b0:=decide_eq_true c112;clear c112
                                                  by_cases c113:(((rd_T40 t474 x20_5).f0)==((rd_T40 t481 x23_6).f0) && (((rd_T40 t474 x20_5).f1)==((rd_T40 t481 x23_6).f1)))=true
                                                  · skip
                                                    as_aux_lemma=>
                                                    rw[if_pos c113]at H;have c113b0:(((rd_T40 t474 x20_5).f0)==((rd_T40 t481 x23_6).f0) && (((rd_T40 t474 x20_5).f1)==((rd_T40 t481 x23_6).f1)))=true:=c113;(try(have c113b1:decide (((rd_T40 t474 x20_5).f0)=((rd_T40 t481 x23_6).f0) && (((rd_T40 t474 x20_5).f1)==((rd_T40 t481 x23_6).f1)))=true:=by simpa using c113));(try(have c113b2:(((rd_T40 t474 x20_5).f0)==((rd_T40 t481 x23_6).f0) && (((rd_T40 t474 x20_5).f1)==((rd_T40 t481 x23_6).f1)))=true:=by simpa using c113));clear c113;have H':=m0 H;clear H
                                                    try go_wp2
                                                    replace HO_9:=m0 (Kd.R_drew HO_9.out);replace HO_11:=m0 (Kd.R_drew HO_11.out);replace HO_13:=m0 (Kd.R_drew HO_13.out);replace BK463:=bd BK463;replace BK469:=bd BK469;replace BK470:=bd BK470;replace HB:=sd HB;have p511:0≤(x20_5:Int):=od;have q511:x20_5<(t474.length:Int):=od;obtain⟨ad511,e511,hx511_0,hx511_1⟩:=at_T40 (Kd.R_reads' HO_9.out).2.2 x20_5 p511 q511
                                                    cases e511
                                                    replace p511:=eq_true p511;replace q511:=eq_true q511;have p512:0≤(x23_6:Int):=od;have q512:x23_6<(t481.length:Int):=od;obtain⟨ad512,e512,hx512_0,hx512_1⟩:=at_T40 (Kd.R_reads' HO_11.out).2.2 x23_6 p512 q512
                                                    cases e512
                                                    replace p512:=eq_true p512;replace q512:=eq_true q512;have p513:0≤(x20_5:Int):=od;have q513:x20_5<(t474.length:Int):=od;obtain⟨ad513,e513,hx513_0,hx513_1⟩:=at_T40 (Kd.R_reads' HO_9.out).2.2 x20_5 p513 q513;obtain rfl:ad511=ad513:=(by injection e513);replace p513:=eq_true p513;replace q513:=eq_true q513;have p514:0≤(x20_5:Int):=od;have q514:x20_5<(t474.length:Int):=od;obtain⟨ad514,e514,hx514_0,hx514_1⟩:=at_T40 (Kd.R_reads' HO_9.out).2.2 x20_5 p514 q514;obtain rfl:ad511=ad514:=(by injection e514);replace p514:=eq_true p514;replace q514:=eq_true q514;refine start_ (n:=31) (S:=fun w'=>w'.cell? ⟨gb463,0,none⟩=some (.int .i64 a1_0)∧w'.cell? ⟨gb463,1,none⟩=some (.int .i64 a1_1)∧w'.cell? ⟨gb463,2,none⟩=some (.int .i64 a1_2)∧w'.cell? ⟨gb463,3,none⟩=some (.int .i64 a1_3)∧w'.cell? ⟨gb463,4,none⟩=some (.int .i64 a1_4)∧w'.cell? ⟨gb463,5,none⟩=some (.int .i64 a1_5)∧w'.cell? (ad511.add ((x20_5).toNat*2))=some (.int .i64 ((rd_T40 t474 x20_5).f0))∧w'.cell? ⟨(ad511.add ((x20_5).toNat*2)).block,(ad511.add ((x20_5).toNat*2)).off+1,none⟩=some (.int .i64 ((rd_T40 t474 x20_5).f1))∧w'.cell? (ad512.add ((x23_6).toNat*2))=some (.int .i64 ((rd_T40 t481 x23_6).f0))∧w'.cell? ⟨(ad512.add ((x23_6).toNat*2)).block,(ad512.add ((x23_6).toNat*2)).off+1,none⟩=some (.int .i64 ((rd_T40 t481 x23_6).f1))∧w'.cell? (ad511.add ((x20_5).toNat*2))=some (.int .i64 ((rd_T40 t474 x20_5).f0))∧w'.cell? ⟨(ad511.add ((x20_5).toNat*2)).block,(ad511.add ((x20_5).toNat*2)).off+1,none⟩=some (.int .i64 ((rd_T40 t474 x20_5).f1))∧w'.cell? (ad511.add ((x20_5).toNat*2))=some (.int .i64 ((rd_T40 t474 x20_5).f0))∧w'.cell? ⟨(ad511.add ((x20_5).toNat*2)).block,(ad511.add ((x20_5).toNat*2)).off+1,none⟩=some (.int .i64 ((rd_T40 t474 x20_5).f1))) (ds:=[]) _ (by kernel_rfl) rfl rfl ⟨(blk_cell BK463.out 0).trans rfl,(blk_cell BK463.out 1).trans rfl,(blk_cell BK463.out 2).trans rfl,(blk_cell BK463.out 3).trans rfl,(blk_cell BK463.out 4).trans rfl,(blk_cell BK463.out 5).trans rfl,hx511_0,hx511_1,hx512_0,hx512_1,hx513_0,hx513_1,hx514_0,hx514_1⟩ (fun hH=>?_);refine with_tabW Lw_CloudApart.tab43 Lw_CloudApart.bits43 (fun HT_ HW_=>?_);generalize wr.drew=w114 at HO_9 HO_11 HO_13 BK463 BK469 BK470 HB hx511_0 hx511_1 hx512_0 hx512_1 hx513_0 hx513_1 hx514_0 hx514_1 hH ⊢;refine pZ 0 (some 241) (bs 31 1) HT_ ?_;refine pZ 1 (some 242) (bs 31 3) HT_ ?_;refine pZ 2 (some 243) (bs 31 7) HT_ ?_;refine pZ 3 (some 244) (bs 31 15) HT_ ?_;refine pZ 4 (some 245) (bs 31 31) HT_ ?_;refine pZ 6 (some 247) (bs 31 95) HT_ ?_;refine pZ 7 (some 248) (bs 31 223) HT_ ?_;refine pZ 8 (some 249) (bs 31 479) HT_ ?_;refine takeZ 5 (some 246) (bs 31 511) (tw HT_ HW_) hH ?_;refine takeZ 9 (some 250) (bs 31 1023) (tw HT_ HW_) hH ?_;refine pZ 10 (some 251) (bs 31 2047) HT_ ?_;refine pZ 11 (some 252) (bs 31 4095) HT_ ?_;refine pZ 12 (some 253) (bs 31 8191) HT_ ?_;refine pZ 13 (some 254) (bs 31 16383) HT_ ?_;refine pZ 14 (some 255) (bs 31 32767) HT_ ?_;refine pZ 15 (some 256) (bs 31 65535) HT_ ?_;refine pZ 17 (some 258) (bs 31 196607) HT_ ?_;refine pZ 18 (some 259) (bs 31 458751) HT_ ?_;refine pZ 19 (some 260) (bs 31 983039) HT_ ?_;refine pZ 20 (some 261) (bs 31 2031615) HT_ ?_;refine pZ 24 (some 265) (bs 31 18808831) HT_ ?_;refine pZ 25 (some 266) (bs 31 52363263) HT_ ?_;refine takeZ 16 (some 257) (bs 31 52428799) (tw HT_ HW_) hH ?_;refine takeZ 21 (some 262) (bs 31 54525951) (tw HT_ HW_) hH ?_;refine pZ 22 (some 263) (bs 31 58720255) HT_ ?_;refine pZ 23 (some 264) (bs 31 67108863) HT_ ?_;refine takeZ 26 (some 267) (bs 31 134217727) (tw HT_ HW_) hH ?_;refine pZ 27 (some 268) (bs 31 268435455) HT_ ?_;refine pZ 28 (some 269) (bs 31 536870911) HT_ ?_;refine pZ 29 (some 270) (bs 31 1073741823) HT_ ?_;refine pZ 30 (some 21) (bs 31 2147483647) HT_ ?_;refine done_ (done_of HT_.out (by kernel_rfl)) ?_
                                                    try go_wp2
                                                    go_roundg k6
                                                    case measure=>have:=HJ5.out;have:=HJ27.out;have:=HK3.out;have:=HK4.out;have:=HK5.out;have:=HK6.out;omega
                                                    case rel=>exact⟨(decide ((wrap64 ((wrap64 (((rd_T40 t474 x20_5).f1)-((rd_T40 t474 x20_5).f0)))+1))≥a1_5)),(wrap64 (x23_6+1)),rz,rz,H',⟨by have:=HJ5.out;have:=HJ27.out;have:=HK3.out;have:=HK4.out;have:=HK5.out;have:=HK6.out;omega⟩,⟨br HO_9.out⟩,⟨br HO_11.out⟩,⟨br HO_13.out⟩,⟨bk BK463.out⟩,⟨bk BK469.out⟩,⟨bk BK470.out⟩,⟨bz⟩⟩
                                                  · skip
                                                    as_aux_lemma=>
                                                    rw[if_neg c113]at H;have c113b0:(((rd_T40 t474 x20_5).f0)==((rd_T40 t481 x23_6).f0) && (((rd_T40 t474 x20_5).f1)==((rd_T40 t481 x23_6).f1)))=false:=by simpa using c113
                                                    (try(have c113b1:decide (((rd_T40 t474 x20_5).f0)=((rd_T40 t481 x23_6).f0) && (((rd_T40 t474 x20_5).f1)==((rd_T40 t481 x23_6).f1)))=false:=by simpa using c113));(try(have c113b2:(((rd_T40 t474 x20_5).f0)==((rd_T40 t481 x23_6).f0) && (((rd_T40 t474 x20_5).f1)==((rd_T40 t481 x23_6).f1)))=false:=by simpa using c113));(try(have c113b3:¬ (((rd_T40 t474 x20_5).f0)=((rd_T40 t481 x23_6).f0) && (((rd_T40 t474 x20_5).f1)==((rd_T40 t481 x23_6).f1))):=by simpa using c113));clear c113;have H':=m0 H;clear H
                                                    try go_wp2
                                                    replace HO_9:=m0 (Kd.R_drew HO_9.out);replace HO_11:=m0 (Kd.R_drew HO_11.out);replace HO_13:=m0 (Kd.R_drew HO_13.out);replace BK463:=bd BK463;replace BK469:=bd BK469;replace BK470:=bd BK470;replace HB:=sd HB;have p511:0≤(x20_5:Int):=od;have q511:x20_5<(t474.length:Int):=od;obtain⟨ad511,e511,hx511_0,hx511_1⟩:=at_T40 (Kd.R_reads' HO_9.out).2.2 x20_5 p511 q511
                                                    cases e511
                                                    replace p511:=eq_true p511;replace q511:=eq_true q511;have p512:0≤(x23_6:Int):=od;have q512:x23_6<(t481.length:Int):=od;obtain⟨ad512,e512,hx512_0,hx512_1⟩:=at_T40 (Kd.R_reads' HO_11.out).2.2 x23_6 p512 q512
                                                    cases e512
                                                    replace p512:=eq_true p512;replace q512:=eq_true q512;refine start_ (n:=31) (S:=fun w'=>w'.cell? (ad511.add ((x20_5).toNat*2))=some (.int .i64 ((rd_T40 t474 x20_5).f0))∧w'.cell? ⟨(ad511.add ((x20_5).toNat*2)).block,(ad511.add ((x20_5).toNat*2)).off+1,none⟩=some (.int .i64 ((rd_T40 t474 x20_5).f1))∧w'.cell? (ad512.add ((x23_6).toNat*2))=some (.int .i64 ((rd_T40 t481 x23_6).f0))∧w'.cell? ⟨(ad512.add ((x23_6).toNat*2)).block,(ad512.add ((x23_6).toNat*2)).off+1,none⟩=some (.int .i64 ((rd_T40 t481 x23_6).f1))) (ds:=[]) _ (by kernel_rfl) rfl rfl ⟨hx511_0,hx511_1,hx512_0,hx512_1⟩ (fun hH=>?_);refine with_tabW Lw_CloudApart.tab43 Lw_CloudApart.bits43 (fun HT_ HW_=>?_);generalize wr.drew=w115 at HO_9 HO_11 HO_13 BK463 BK469 BK470 HB hx511_0 hx511_1 hx512_0 hx512_1 hH ⊢;refine pZ 0 (some 241) (bs 31 1) HT_ ?_;refine pZ 1 (some 242) (bs 31 3) HT_ ?_;refine pZ 2 (some 243) (bs 31 7) HT_ ?_;refine pZ 3 (some 244) (bs 31 15) HT_ ?_;refine pZ 4 (some 245) (bs 31 31) HT_ ?_;refine pZ 6 (some 247) (bs 31 95) HT_ ?_;refine pZ 7 (some 248) (bs 31 223) HT_ ?_;refine pZ 8 (some 249) (bs 31 479) HT_ ?_;refine takeZ 5 (some 246) (bs 31 511) (tw HT_ HW_) hH ?_;refine takeZ 9 (some 250) (bs 31 1023) (tw HT_ HW_) hH ?_;refine pZ 10 (some 251) (bs 31 2047) HT_ ?_;refine pZ 11 (some 252) (bs 31 4095) HT_ ?_;refine pure_ (i:=12) (N:=some 253) (v:=undef) (a':=?_) (bs 31 8191) rfl rfl (any_of HT_.out (by kernel_rfl)) (fun _ _ _ h=>h) (Or.inr ⟨by rfl,rfl⟩) ?_ ?_;rotate_left
                                                    · exact pz
                                                    refine pure_ (i:=13) (N:=some 254) (v:=undef) (a':=?_) (bs 31 16383) rfl rfl (any_of HT_.out (by kernel_rfl)) (fun _ _ _ h=>h) (Or.inr ⟨by rfl,rfl⟩) ?_ ?_;rotate_left
                                                    · exact pz
                                                    refine pure_ (i:=14) (N:=some 255) (v:=undef) (a':=?_) (bs 31 32767) rfl rfl (any_of HT_.out (by kernel_rfl)) (fun _ _ _ h=>h) (Or.inr ⟨by rfl,rfl⟩) ?_ ?_;rotate_left
                                                    · exact pz
                                                    refine pure_ (i:=15) (N:=some 256) (v:=undef) (a':=?_) (bs 31 65535) rfl rfl (any_of HT_.out (by kernel_rfl)) (fun _ _ _ h=>h) (Or.inr ⟨by rfl,rfl⟩) ?_ ?_;rotate_left
                                                    · exact pz
                                                    refine pure_ (i:=16) (N:=some 257) (v:=undef) (a':=?_) (bs 31 131071) rfl rfl (any_of HT_.out (by kernel_rfl)) (fun _ _ _ h=>h) (Or.inr ⟨by rfl,rfl⟩) ?_ ?_;rotate_left
                                                    · exact pz
                                                    refine pure_ (i:=17) (N:=some 258) (v:=undef) (a':=?_) (bs 31 262143) rfl rfl (any_of HT_.out (by kernel_rfl)) (fun _ _ _ h=>h) (Or.inr ⟨by rfl,rfl⟩) ?_ ?_;rotate_left
                                                    · exact pz
                                                    refine pure_ (i:=18) (N:=some 259) (v:=undef) (a':=?_) (bs 31 524287) rfl rfl (any_of HT_.out (by kernel_rfl)) (fun _ _ _ h=>h) (Or.inr ⟨by rfl,rfl⟩) ?_ ?_;rotate_left
                                                    · exact pz
                                                    refine pure_ (i:=19) (N:=some 260) (v:=undef) (a':=?_) (bs 31 1048575) rfl rfl (any_of HT_.out (by kernel_rfl)) (fun _ _ _ h=>h) (Or.inr ⟨by rfl,rfl⟩) ?_ ?_;rotate_left
                                                    · exact pz
                                                    refine pure_ (i:=20) (N:=some 261) (v:=undef) (a':=?_) (bs 31 2097151) rfl rfl (any_of HT_.out (by kernel_rfl)) (fun _ _ _ h=>h) (Or.inr ⟨by rfl,rfl⟩) ?_ ?_;rotate_left
                                                    · exact pz
                                                    refine pure_ (i:=21) (N:=some 262) (v:=undef) (a':=?_) (bs 31 4194303) rfl rfl (any_of HT_.out (by kernel_rfl)) (fun _ _ _ h=>h) (Or.inr ⟨by rfl,rfl⟩) ?_ ?_;rotate_left
                                                    · exact pz
                                                    refine pure_ (i:=22) (N:=some 263) (v:=undef) (a':=?_) (bs 31 8388607) rfl rfl (any_of HT_.out (by kernel_rfl)) (fun _ _ _ h=>h) (Or.inr ⟨by rfl,rfl⟩) ?_ ?_;rotate_left
                                                    · exact pz
                                                    refine pure_ (i:=23) (N:=some 264) (v:=undef) (a':=?_) (bs 31 16777215) rfl rfl (any_of HT_.out (by kernel_rfl)) (fun _ _ _ h=>h) (Or.inr ⟨by rfl,rfl⟩) ?_ ?_;rotate_left
                                                    · exact pz
                                                    refine pure_ (i:=24) (N:=some 265) (v:=undef) (a':=?_) (bs 31 33554431) rfl rfl (any_of HT_.out (by kernel_rfl)) (fun _ _ _ h=>h) (Or.inr ⟨by rfl,rfl⟩) ?_ ?_;rotate_left
                                                    · exact pz
                                                    refine pure_ (i:=25) (N:=some 266) (v:=undef) (a':=?_) (bs 31 67108863) rfl rfl (any_of HT_.out (by kernel_rfl)) (fun _ _ _ h=>h) (Or.inr ⟨by rfl,rfl⟩) ?_ ?_;rotate_left
                                                    · exact pz
                                                    refine pure_ (i:=26) (N:=some 267) (v:=undef) (a':=?_) (bs 31 134217727) rfl rfl (any_of HT_.out (by kernel_rfl)) (fun _ _ _ h=>h) (Or.inr ⟨by rfl,rfl⟩) ?_ ?_;rotate_left
                                                    · exact pz
                                                    refine pure_ (i:=27) (N:=some 268) (v:=undef) (a':=?_) (bs 31 268435455) rfl rfl (any_of HT_.out (by kernel_rfl)) (fun _ _ _ h=>h) (Or.inr ⟨by rfl,rfl⟩) ?_ ?_;rotate_left
                                                    · exact pz
                                                    refine pZ 28 (some 269) (bs 31 536870911) HT_ ?_;refine pZ 29 (some 270) (bs 31 1073741823) HT_ ?_;refine pZ 30 (some 21) (bs 31 2147483647) HT_ ?_;refine done_ (done_of HT_.out (by kernel_rfl)) ?_
                                                    try go_wp2
                                                    go_roundg k6
                                                    case measure=>have:=HJ5.out;have:=HJ27.out;have:=HK3.out;have:=HK4.out;have:=HK5.out;have:=HK6.out;omega
                                                    case rel=>exact⟨(false),(wrap64 (x23_6+1)),rz,rz,H',⟨by have:=HJ5.out;have:=HJ27.out;have:=HK3.out;have:=HK4.out;have:=HK5.out;have:=HK6.out;omega⟩,⟨br HO_9.out⟩,⟨br HO_11.out⟩,⟨br HO_13.out⟩,⟨bk BK463.out⟩,⟨bk BK469.out⟩,⟨bk BK470.out⟩,⟨bz⟩⟩
                                                · rw[if_neg c112]at H;exact absurd H (by simp)
                                              · rw[if_neg c111]at H;exact absurd H (by simp)
                                            · rw[if_neg c110]at H;exact absurd H (by simp)
                                        · rw [if_neg c107]at H;have c107b0:=decide_eq_false c107;clear c107;have H':=m0 H;clear H
                                          go_wp2
                                          go_loopg [22,24] k6 (fun kq v22 v24 w'=>∃ (x22_7:Bool) (x24_7:Int),v22= .bool x22_7∧v24= .int .i64 x24_7∧Aside0 (Lw_CloudApart.l5 kq l0 t474 t481 t488 x20_5 x21_6 x22_7 x24_7 a1_0 a1_1 a1_2 a1_3 a1_4 a1_5=some r)∧Aside0 (kq≤k6)∧Aside0 (Kd.R k40 40 w' w.heap.size (fun k_=>some k_≠((.slice Ao98 t481.length co98):Value).ownBlock∧some k_≠(v489:Value).ownBlock) (.slice Ao106 t474.length co106) t474)∧Aside0 (Kd.R k40 40 w' w.heap.size (fun k_=>some k_≠((.slice Ao106 t474.length co106):Value).ownBlock∧some k_≠(v489:Value).ownBlock) (.slice Ao98 t481.length co98) t481)∧Aside0 (Kd.R k40 40 w' w.heap.size (fun k_=>some k_≠((.slice Ao106 t474.length co106):Value).ownBlock∧some k_≠((.slice Ao98 t481.length co98):Value).ownBlock) v489 t488)∧Aside0 (w'.heap[gb463]?=some (.cells #[.int .i64 a1_0,.int .i64 a1_1,.int .i64 a1_2,.int .i64 a1_3,.int .i64 a1_4,.int .i64 a1_5] 28 (0,0)))∧Aside0 (w'.heap[gb469]?=some (.cells #[.int .i64 a1_3,.int .i64 a1_4,.int .i64 1] 26 (0,0)))∧Aside0 (w'.heap[gb470]?=some (.cells #[.int .i64 (wrap64 (a1_3-a2)),.int .i64 a1_4,.int .i64 a1_5] 26 (0,0)))∧Aside0 (Below w.heap.size w w'))
                                          case atStart=>exact⟨(false),(0),rz,rz,H',⟨Nat.le_refl _⟩,⟨br HO_9.out⟩,⟨br HO_11.out⟩,⟨br HO_13.out⟩,⟨bk BK463.out⟩,⟨bk BK469.out⟩,⟨bk BK470.out⟩,⟨bz⟩⟩
                                          case round =>
                                            as_aux_lemma=>
                                            clear H'
                                            try clear hx5
                                            try clear hx51
                                            try clear hx511_0
                                            try clear hx511_1
                                            try clear hx512_0
                                            try clear hx512_1
                                            try clear hx513_0
                                            try clear hx513_1
                                            try clear hx514_0
                                            try clear hx514_1
                                            obtain⟨x22_7,x24_7,rfl,rfl,HA,HK7,HO_9,HO_11,HO_13,BK463,BK469,BK470,HB⟩:=hrel
                                            cases gk with
                                            |zero=>exact absurd HA.out (by simp[Lw_CloudApart.l5])
                                            | succ k7 =>
                                              have H:=HA.out;clear HA;simp only[Lw_CloudApart.l5]at H
                                              by_cases c116:x24_7<(t488.length:Int)
                                              · skip
                                                as_aux_lemma=>
                                                rw[if_pos c116]at H;have c116b0:=decide_eq_true c116;clear c116
                                                by_cases c117:x22_7=true
                                                · skip
                                                  as_aux_lemma=>
                                                  subst c117;rw[if_pos rfl]at H;have H':=m0 H;clear H;obtain⟨Ao118,co118,eo118⟩:=Kd.R_slice HO_13.out;subst eo118
                                                  try go_wp2
                                                  replace HO_9:=m0 (Kd.R_drew HO_9.out);replace HO_11:=m0 (Kd.R_drew HO_11.out);replace HO_13:=m0 (Kd.R_drew HO_13.out);replace BK463:=bd BK463;replace BK469:=bd BK469;replace BK470:=bd BK470;replace HB:=sd HB;refine start_ (n:=28) (S:=fun w'=>True) (ds:=[]) _ (by kernel_rfl) rfl rfl trivial (fun hH=>?_);refine with_tabW Lw_CloudApart.tab47 Lw_CloudApart.bits47 (fun HT_ HW_=>?_);generalize wr.drew=w119 at HO_9 HO_11 HO_13 BK463 BK469 BK470 HB hH ⊢;refine pZ 0 (some 277) (bs 28 1) HT_ ?_;refine pZ 1 (some 278) (bs 28 3) HT_ ?_;refine pure_ (i:=2) (N:=some 279) (v:=undef) (a':=?_) (bs 28 7) rfl rfl (any_of HT_.out (by kernel_rfl)) (fun _ _ _ h=>h) (Or.inr ⟨by rfl,rfl⟩) ?_ ?_;rotate_left
                                                  · exact pz
                                                  refine pure_ (i:=3) (N:=some 280) (v:=undef) (a':=?_) (bs 28 15) rfl rfl (any_of HT_.out (by kernel_rfl)) (fun _ _ _ h=>h) (Or.inr ⟨by rfl,rfl⟩) ?_ ?_;rotate_left
                                                  · exact pz
                                                  refine pure_ (i:=4) (N:=some 281) (v:=undef) (a':=?_) (bs 28 31) rfl rfl (any_of HT_.out (by kernel_rfl)) (fun _ _ _ h=>h) (Or.inr ⟨by rfl,rfl⟩) ?_ ?_;rotate_left
                                                  · exact pz
                                                  refine pure_ (i:=5) (N:=some 282) (v:=undef) (a':=?_) (bs 28 63) rfl rfl (any_of HT_.out (by kernel_rfl)) (fun _ _ _ h=>h) (Or.inr ⟨by rfl,rfl⟩) ?_ ?_;rotate_left
                                                  · exact pz
                                                  refine pure_ (i:=6) (N:=some 283) (v:=undef) (a':=?_) (bs 28 127) rfl rfl (any_of HT_.out (by kernel_rfl)) (fun _ _ _ h=>h) (Or.inr ⟨by rfl,rfl⟩) ?_ ?_;rotate_left
                                                  · exact pz
                                                  refine pure_ (i:=7) (N:=some 284) (v:=undef) (a':=?_) (bs 28 255) rfl rfl (any_of HT_.out (by kernel_rfl)) (fun _ _ _ h=>h) (Or.inr ⟨by rfl,rfl⟩) ?_ ?_;rotate_left
                                                  · exact pz
                                                  refine pure_ (i:=8) (N:=some 285) (v:=undef) (a':=?_) (bs 28 511) rfl rfl (any_of HT_.out (by kernel_rfl)) (fun _ _ _ h=>h) (Or.inr ⟨by rfl,rfl⟩) ?_ ?_;rotate_left
                                                  · exact pz
                                                  refine pure_ (i:=9) (N:=some 286) (v:=undef) (a':=?_) (bs 28 1023) rfl rfl (any_of HT_.out (by kernel_rfl)) (fun _ _ _ h=>h) (Or.inr ⟨by rfl,rfl⟩) ?_ ?_;rotate_left
                                                  · exact pz
                                                  refine pure_ (i:=10) (N:=some 287) (v:=undef) (a':=?_) (bs 28 2047) rfl rfl (any_of HT_.out (by kernel_rfl)) (fun _ _ _ h=>h) (Or.inr ⟨by rfl,rfl⟩) ?_ ?_;rotate_left
                                                  · exact pz
                                                  refine pure_ (i:=11) (N:=some 288) (v:=undef) (a':=?_) (bs 28 4095) rfl rfl (any_of HT_.out (by kernel_rfl)) (fun _ _ _ h=>h) (Or.inr ⟨by rfl,rfl⟩) ?_ ?_;rotate_left
                                                  · exact pz
                                                  refine pure_ (i:=12) (N:=some 289) (v:=undef) (a':=?_) (bs 28 8191) rfl rfl (any_of HT_.out (by kernel_rfl)) (fun _ _ _ h=>h) (Or.inr ⟨by rfl,rfl⟩) ?_ ?_;rotate_left
                                                  · exact pz
                                                  refine pure_ (i:=13) (N:=some 290) (v:=undef) (a':=?_) (bs 28 16383) rfl rfl (any_of HT_.out (by kernel_rfl)) (fun _ _ _ h=>h) (Or.inr ⟨by rfl,rfl⟩) ?_ ?_;rotate_left
                                                  · exact pz
                                                  refine pure_ (i:=14) (N:=some 291) (v:=undef) (a':=?_) (bs 28 32767) rfl rfl (any_of HT_.out (by kernel_rfl)) (fun _ _ _ h=>h) (Or.inr ⟨by rfl,rfl⟩) ?_ ?_;rotate_left
                                                  · exact pz
                                                  refine pure_ (i:=15) (N:=some 292) (v:=undef) (a':=?_) (bs 28 65535) rfl rfl (any_of HT_.out (by kernel_rfl)) (fun _ _ _ h=>h) (Or.inr ⟨by rfl,rfl⟩) ?_ ?_;rotate_left
                                                  · exact pz
                                                  refine pure_ (i:=16) (N:=some 293) (v:=undef) (a':=?_) (bs 28 131071) rfl rfl (any_of HT_.out (by kernel_rfl)) (fun _ _ _ h=>h) (Or.inr ⟨by rfl,rfl⟩) ?_ ?_;rotate_left
                                                  · exact pz
                                                  refine pure_ (i:=17) (N:=some 294) (v:=undef) (a':=?_) (bs 28 262143) rfl rfl (any_of HT_.out (by kernel_rfl)) (fun _ _ _ h=>h) (Or.inr ⟨by rfl,rfl⟩) ?_ ?_;rotate_left
                                                  · exact pz
                                                  refine pure_ (i:=18) (N:=some 295) (v:=undef) (a':=?_) (bs 28 524287) rfl rfl (any_of HT_.out (by kernel_rfl)) (fun _ _ _ h=>h) (Or.inr ⟨by rfl,rfl⟩) ?_ ?_;rotate_left
                                                  · exact pz
                                                  refine pure_ (i:=19) (N:=some 296) (v:=undef) (a':=?_) (bs 28 1048575) rfl rfl (any_of HT_.out (by kernel_rfl)) (fun _ _ _ h=>h) (Or.inr ⟨by rfl,rfl⟩) ?_ ?_;rotate_left
                                                  · exact pz
                                                  refine pure_ (i:=20) (N:=some 297) (v:=undef) (a':=?_) (bs 28 2097151) rfl rfl (any_of HT_.out (by kernel_rfl)) (fun _ _ _ h=>h) (Or.inr ⟨by rfl,rfl⟩) ?_ ?_;rotate_left
                                                  · exact pz
                                                  refine pure_ (i:=21) (N:=some 298) (v:=undef) (a':=?_) (bs 28 4194303) rfl rfl (any_of HT_.out (by kernel_rfl)) (fun _ _ _ h=>h) (Or.inr ⟨by rfl,rfl⟩) ?_ ?_;rotate_left
                                                  · exact pz
                                                  refine pure_ (i:=22) (N:=some 299) (v:=undef) (a':=?_) (bs 28 8388607) rfl rfl (any_of HT_.out (by kernel_rfl)) (fun _ _ _ h=>h) (Or.inr ⟨by rfl,rfl⟩) ?_ ?_;rotate_left
                                                  · exact pz
                                                  refine pure_ (i:=23) (N:=some 300) (v:=undef) (a':=?_) (bs 28 16777215) rfl rfl (any_of HT_.out (by kernel_rfl)) (fun _ _ _ h=>h) (Or.inr ⟨by rfl,rfl⟩) ?_ ?_;rotate_left
                                                  · exact pz
                                                  refine pure_ (i:=24) (N:=some 301) (v:=undef) (a':=?_) (bs 28 33554431) rfl rfl (any_of HT_.out (by kernel_rfl)) (fun _ _ _ h=>h) (Or.inr ⟨by rfl,rfl⟩) ?_ ?_;rotate_left
                                                  · exact pz
                                                  refine pure_ (i:=25) (N:=some 302) (v:=undef) (a':=?_) (bs 28 67108863) rfl rfl (any_of HT_.out (by kernel_rfl)) (fun _ _ _ h=>h) (Or.inr ⟨by rfl,rfl⟩) ?_ ?_;rotate_left
                                                  · exact pz
                                                  refine pZ 26 (some 303) (bs 28 134217727) HT_ ?_;refine pZ 27 (some 22) (bs 28 268435455) HT_ ?_;refine done_ (done_of HT_.out (by kernel_rfl)) ?_
                                                  try go_wp2
                                                  go_roundg k7
                                                  case measure=>have:=HJ5.out;have:=HJ27.out;have:=HK3.out;have:=HK4.out;have:=HK5.out;have:=HK6.out;have:=HK7.out;omega
                                                  case rel=>exact⟨(true),(wrap64 (x24_7+1)),rz,rz,H',⟨by have:=HJ5.out;have:=HJ27.out;have:=HK3.out;have:=HK4.out;have:=HK5.out;have:=HK6.out;have:=HK7.out;omega⟩,⟨br HO_9.out⟩,⟨br HO_11.out⟩,⟨br HO_13.out⟩,⟨bk BK463.out⟩,⟨bk BK469.out⟩,⟨bk BK470.out⟩,⟨bz⟩⟩
                                                · replace c117:=Bool.eq_false_iff.mpr c117;subst c117;rw[if_neg (show ¬ (false=true) by decide)]at H
                                                  by_cases c120:0≤x24_7
                                                  · rw [if_pos c120]at H;have c120b0:=decide_eq_true c120;clear c120
                                                    by_cases c121:0≤x20_5
                                                    · rw [if_pos c121]at H;have c121b0:=decide_eq_true c121;clear c121
                                                      by_cases c122:x20_5<(t474.length:Int)
                                                      · rw[if_pos c122]at H;have c122b0:=decide_eq_true c122;clear c122
                                                        by_cases c123:((rd_T40 t488 x24_7).f0)≤((rd_T40 t474 x20_5).f0)
                                                        · skip
                                                          as_aux_lemma=>
                                                          rw[if_pos c123]at H;have c123b0:=decide_eq_true c123;clear c123;have H':=m0 H;clear H;obtain⟨Ao124,co124,eo124⟩:=Kd.R_slice HO_13.out;subst eo124
                                                          try go_wp2
                                                          replace HO_9:=m0 (Kd.R_drew HO_9.out);replace HO_11:=m0 (Kd.R_drew HO_11.out);replace HO_13:=m0 (Kd.R_drew HO_13.out);replace BK463:=bd BK463;replace BK469:=bd BK469;replace BK470:=bd BK470;replace HB:=sd HB;have p515:0≤(x24_7:Int):=od;have q515:x24_7<(t488.length:Int):=od;obtain⟨ad515,e515,hx515_0,hx515_1⟩:=at_T40 (Kd.R_reads' HO_13.out).2.2 x24_7 p515 q515
                                                          cases e515
                                                          replace p515:=eq_true p515;replace q515:=eq_true q515;have p516:0≤(x20_5:Int):=od;have q516:x20_5<(t474.length:Int):=od;obtain⟨ad516,e516,hx516_0,hx516_1⟩:=at_T40 (Kd.R_reads' HO_9.out).2.2 x20_5 p516 q516
                                                          cases e516
                                                          replace p516:=eq_true p516;replace q516:=eq_true q516;have p517:0≤(x20_5:Int):=od;have q517:x20_5<(t474.length:Int):=od;obtain⟨ad517,e517,hx517_0,hx517_1⟩:=at_T40 (Kd.R_reads' HO_9.out).2.2 x20_5 p517 q517;obtain rfl:ad516=ad517:=(by injection e517);replace p517:=eq_true p517;replace q517:=eq_true q517;have p518:0≤(x24_7:Int):=od;have q518:x24_7<(t488.length:Int):=od;obtain⟨ad518,e518,hx518_0,hx518_1⟩:=at_T40 (Kd.R_reads' HO_13.out).2.2 x24_7 p518 q518;obtain rfl:ad515=ad518:=(by injection e518);replace p518:=eq_true p518;replace q518:=eq_true q518;refine start_ (n:=28) (S:=fun w'=>w'.cell? (ad515.add ((x24_7).toNat*2))=some (.int .i64 ((rd_T40 t488 x24_7).f0))∧w'.cell? ⟨(ad515.add ((x24_7).toNat*2)).block,(ad515.add ((x24_7).toNat*2)).off+1,none⟩=some (.int .i64 ((rd_T40 t488 x24_7).f1))∧w'.cell? (ad516.add ((x20_5).toNat*2))=some (.int .i64 ((rd_T40 t474 x20_5).f0))∧w'.cell? ⟨(ad516.add ((x20_5).toNat*2)).block,(ad516.add ((x20_5).toNat*2)).off+1,none⟩=some (.int .i64 ((rd_T40 t474 x20_5).f1))∧w'.cell? (ad516.add ((x20_5).toNat*2))=some (.int .i64 ((rd_T40 t474 x20_5).f0))∧w'.cell? ⟨(ad516.add ((x20_5).toNat*2)).block,(ad516.add ((x20_5).toNat*2)).off+1,none⟩=some (.int .i64 ((rd_T40 t474 x20_5).f1))∧w'.cell? (ad515.add ((x24_7).toNat*2))=some (.int .i64 ((rd_T40 t488 x24_7).f0))∧w'.cell? ⟨(ad515.add ((x24_7).toNat*2)).block,(ad515.add ((x24_7).toNat*2)).off+1,none⟩=some (.int .i64 ((rd_T40 t488 x24_7).f1))) (ds:=[]) _ (by kernel_rfl) rfl rfl ⟨hx515_0,hx515_1,hx516_0,hx516_1,hx517_0,hx517_1,hx518_0,hx518_1⟩ (fun hH=>?_);refine with_tabW Lw_CloudApart.tab47 Lw_CloudApart.bits47 (fun HT_ HW_=>?_);generalize wr.drew=w125 at HO_9 HO_11 HO_13 BK463 BK469 BK470 HB hx515_0 hx515_1 hx516_0 hx516_1 hx517_0 hx517_1 hx518_0 hx518_1 hH ⊢;refine pZ 0 (some 277) (bs 28 1) HT_ ?_;refine pZ 1 (some 278) (bs 28 3) HT_ ?_;refine pZ 2 (some 279) (bs 28 7) HT_ ?_;refine pZ 3 (some 280) (bs 28 15) HT_ ?_;refine pZ 4 (some 281) (bs 28 31) HT_ ?_;refine pZ 5 (some 282) (bs 28 63) HT_ ?_;refine pZ 7 (some 284) (bs 28 191) HT_ ?_;refine pZ 8 (some 285) (bs 28 447) HT_ ?_;refine pZ 9 (some 286) (bs 28 959) HT_ ?_;refine pZ 10 (some 287) (bs 28 1983) HT_ ?_;refine takeZ 6 (some 283) (bs 28 2047) (tw HT_ HW_) hH ?_;refine takeZ 11 (some 288) (bs 28 4095) (tw HT_ HW_) hH ?_;refine pZ 12 (some 289) (bs 28 8191) HT_ ?_;refine pZ 13 (some 290) (bs 28 16383) HT_ ?_;refine pZ 14 (some 291) (bs 28 32767) HT_ ?_;refine pZ 15 (some 292) (bs 28 65535) HT_ ?_;refine pZ 16 (some 293) (bs 28 131071) HT_ ?_;refine pZ 17 (some 294) (bs 28 262143) HT_ ?_;refine pZ 19 (some 296) (bs 28 786431) HT_ ?_;refine pZ 20 (some 297) (bs 28 1835007) HT_ ?_;refine pZ 21 (some 298) (bs 28 3932159) HT_ ?_;refine pZ 22 (some 299) (bs 28 8126463) HT_ ?_;refine takeZ 18 (some 295) (bs 28 8388607) (tw HT_ HW_) hH ?_;refine takeZ 23 (some 300) (bs 28 16777215) (tw HT_ HW_) hH ?_;refine pZ 24 (some 301) (bs 28 33554431) HT_ ?_;refine pZ 25 (some 302) (bs 28 67108863) HT_ ?_;refine pZ 26 (some 303) (bs 28 134217727) HT_ ?_;refine pZ 27 (some 22) (bs 28 268435455) HT_ ?_;refine done_ (done_of HT_.out (by kernel_rfl)) ?_
                                                          try go_wp2
                                                          go_roundg k7
                                                          case measure=>have:=HJ5.out;have:=HJ27.out;have:=HK3.out;have:=HK4.out;have:=HK5.out;have:=HK6.out;have:=HK7.out;omega
                                                          case rel=>exact⟨(decide (((rd_T40 t474 x20_5).f1)≤((rd_T40 t488 x24_7).f1))),(wrap64 (x24_7+1)),rz,rz,H',⟨by have:=HJ5.out;have:=HJ27.out;have:=HK3.out;have:=HK4.out;have:=HK5.out;have:=HK6.out;have:=HK7.out;omega⟩,⟨br HO_9.out⟩,⟨br HO_11.out⟩,⟨br HO_13.out⟩,⟨bk BK463.out⟩,⟨bk BK469.out⟩,⟨bk BK470.out⟩,⟨bz⟩⟩
                                                        · skip
                                                          as_aux_lemma=>
                                                          rw[if_neg c123]at H;have c123b0:=decide_eq_false c123;clear c123;have H':=m0 H;clear H;obtain⟨Ao126,co126,eo126⟩:=Kd.R_slice HO_13.out;subst eo126
                                                          try go_wp2
                                                          replace HO_9:=m0 (Kd.R_drew HO_9.out);replace HO_11:=m0 (Kd.R_drew HO_11.out);replace HO_13:=m0 (Kd.R_drew HO_13.out);replace BK463:=bd BK463;replace BK469:=bd BK469;replace BK470:=bd BK470;replace HB:=sd HB;have p515:0≤(x24_7:Int):=od;have q515:x24_7<(t488.length:Int):=od;obtain⟨ad515,e515,hx515_0,hx515_1⟩:=at_T40 (Kd.R_reads' HO_13.out).2.2 x24_7 p515 q515
                                                          cases e515
                                                          replace p515:=eq_true p515;replace q515:=eq_true q515;have p516:0≤(x20_5:Int):=od;have q516:x20_5<(t474.length:Int):=od;obtain⟨ad516,e516,hx516_0,hx516_1⟩:=at_T40 (Kd.R_reads' HO_9.out).2.2 x20_5 p516 q516
                                                          cases e516
                                                          replace p516:=eq_true p516;replace q516:=eq_true q516;refine start_ (n:=28) (S:=fun w'=>w'.cell? (ad515.add ((x24_7).toNat*2))=some (.int .i64 ((rd_T40 t488 x24_7).f0))∧w'.cell? ⟨(ad515.add ((x24_7).toNat*2)).block,(ad515.add ((x24_7).toNat*2)).off+1,none⟩=some (.int .i64 ((rd_T40 t488 x24_7).f1))∧w'.cell? (ad516.add ((x20_5).toNat*2))=some (.int .i64 ((rd_T40 t474 x20_5).f0))∧w'.cell? ⟨(ad516.add ((x20_5).toNat*2)).block,(ad516.add ((x20_5).toNat*2)).off+1,none⟩=some (.int .i64 ((rd_T40 t474 x20_5).f1))) (ds:=[]) _ (by kernel_rfl) rfl rfl ⟨hx515_0,hx515_1,hx516_0,hx516_1⟩ (fun hH=>?_);refine with_tabW Lw_CloudApart.tab47 Lw_CloudApart.bits47 (fun HT_ HW_=>?_);generalize wr.drew=w127 at HO_9 HO_11 HO_13 BK463 BK469 BK470 HB hx515_0 hx515_1 hx516_0 hx516_1 hH ⊢;refine pZ 0 (some 277) (bs 28 1) HT_ ?_;refine pZ 1 (some 278) (bs 28 3) HT_ ?_;refine pZ 2 (some 279) (bs 28 7) HT_ ?_;refine pZ 3 (some 280) (bs 28 15) HT_ ?_;refine pZ 4 (some 281) (bs 28 31) HT_ ?_;refine pZ 5 (some 282) (bs 28 63) HT_ ?_;refine pZ 7 (some 284) (bs 28 191) HT_ ?_;refine pZ 8 (some 285) (bs 28 447) HT_ ?_;refine pZ 9 (some 286) (bs 28 959) HT_ ?_;refine pZ 10 (some 287) (bs 28 1983) HT_ ?_;refine takeZ 6 (some 283) (bs 28 2047) (tw HT_ HW_) hH ?_;refine takeZ 11 (some 288) (bs 28 4095) (tw HT_ HW_) hH ?_;refine pZ 12 (some 289) (bs 28 8191) HT_ ?_;refine pZ 13 (some 290) (bs 28 16383) HT_ ?_;refine pure_ (i:=14) (N:=some 291) (v:=undef) (a':=?_) (bs 28 32767) rfl rfl (any_of HT_.out (by kernel_rfl)) (fun _ _ _ h=>h) (Or.inr ⟨by rfl,rfl⟩) ?_ ?_;rotate_left
                                                          · exact pz
                                                          refine pure_ (i:=15) (N:=some 292) (v:=undef) (a':=?_) (bs 28 65535) rfl rfl (any_of HT_.out (by kernel_rfl)) (fun _ _ _ h=>h) (Or.inr ⟨by rfl,rfl⟩) ?_ ?_;rotate_left
                                                          · exact pz
                                                          refine pure_ (i:=16) (N:=some 293) (v:=undef) (a':=?_) (bs 28 131071) rfl rfl (any_of HT_.out (by kernel_rfl)) (fun _ _ _ h=>h) (Or.inr ⟨by rfl,rfl⟩) ?_ ?_;rotate_left
                                                          · exact pz
                                                          refine pure_ (i:=17) (N:=some 294) (v:=undef) (a':=?_) (bs 28 262143) rfl rfl (any_of HT_.out (by kernel_rfl)) (fun _ _ _ h=>h) (Or.inr ⟨by rfl,rfl⟩) ?_ ?_;rotate_left
                                                          · exact pz
                                                          refine pure_ (i:=18) (N:=some 295) (v:=undef) (a':=?_) (bs 28 524287) rfl rfl (any_of HT_.out (by kernel_rfl)) (fun _ _ _ h=>h) (Or.inr ⟨by rfl,rfl⟩) ?_ ?_;rotate_left
                                                          · exact pz
                                                          refine pure_ (i:=19) (N:=some 296) (v:=undef) (a':=?_) (bs 28 1048575) rfl rfl (any_of HT_.out (by kernel_rfl)) (fun _ _ _ h=>h) (Or.inr ⟨by rfl,rfl⟩) ?_ ?_;rotate_left
                                                          · exact pz
                                                          refine pure_ (i:=20) (N:=some 297) (v:=undef) (a':=?_) (bs 28 2097151) rfl rfl (any_of HT_.out (by kernel_rfl)) (fun _ _ _ h=>h) (Or.inr ⟨by rfl,rfl⟩) ?_ ?_;rotate_left
                                                          · exact pz
                                                          refine pure_ (i:=21) (N:=some 298) (v:=undef) (a':=?_) (bs 28 4194303) rfl rfl (any_of HT_.out (by kernel_rfl)) (fun _ _ _ h=>h) (Or.inr ⟨by rfl,rfl⟩) ?_ ?_;rotate_left
                                                          · exact pz
                                                          refine pure_ (i:=22) (N:=some 299) (v:=undef) (a':=?_) (bs 28 8388607) rfl rfl (any_of HT_.out (by kernel_rfl)) (fun _ _ _ h=>h) (Or.inr ⟨by rfl,rfl⟩) ?_ ?_;rotate_left
                                                          · exact pz
                                                          refine pure_ (i:=23) (N:=some 300) (v:=undef) (a':=?_) (bs 28 16777215) rfl rfl (any_of HT_.out (by kernel_rfl)) (fun _ _ _ h=>h) (Or.inr ⟨by rfl,rfl⟩) ?_ ?_;rotate_left
                                                          · exact pz
                                                          refine pure_ (i:=24) (N:=some 301) (v:=undef) (a':=?_) (bs 28 33554431) rfl rfl (any_of HT_.out (by kernel_rfl)) (fun _ _ _ h=>h) (Or.inr ⟨by rfl,rfl⟩) ?_ ?_;rotate_left
                                                          · exact pz
                                                          refine pZ 25 (some 302) (bs 28 67108863) HT_ ?_;refine pZ 26 (some 303) (bs 28 134217727) HT_ ?_;refine pZ 27 (some 22) (bs 28 268435455) HT_ ?_;refine done_ (done_of HT_.out (by kernel_rfl)) ?_
                                                          try go_wp2
                                                          go_roundg k7
                                                          case measure=>have:=HJ5.out;have:=HJ27.out;have:=HK3.out;have:=HK4.out;have:=HK5.out;have:=HK6.out;have:=HK7.out;omega
                                                          case rel=>exact⟨(false),(wrap64 (x24_7+1)),rz,rz,H',⟨by have:=HJ5.out;have:=HJ27.out;have:=HK3.out;have:=HK4.out;have:=HK5.out;have:=HK6.out;have:=HK7.out;omega⟩,⟨br HO_9.out⟩,⟨br HO_11.out⟩,⟨br HO_13.out⟩,⟨bk BK463.out⟩,⟨bk BK469.out⟩,⟨bk BK470.out⟩,⟨bz⟩⟩
                                                      · rw[if_neg c122]at H;exact absurd H (by simp)
                                                    · rw[if_neg c121]at H;exact absurd H (by simp)
                                                  · rw[if_neg c120]at H;exact absurd H (by simp)
                                              · rw [if_neg c116]at H;have c116b0:=decide_eq_false c116;clear c116
                                                by_cases c128:x21_6=true
                                                · subst c128;rw[if_pos rfl]at H
                                                  by_cases c129:x22_7=true
                                                  · skip
                                                    as_aux_lemma=>
                                                    subst c129;rw[if_pos rfl]at H;have H':=m0 H;clear H;obtain⟨Ao130,co130,eo130⟩:=Kd.R_slice HO_13.out;subst eo130
                                                    go_wp2
                                                    go_roundg k7
                                                    case measure=>have:=HJ5.out;have:=HJ27.out;have:=HK3.out;have:=HK4.out;have:=HK5.out;have:=HK6.out;have:=HK7.out;omega
                                                    case rel=>exact⟨(wrap64 (x20_5+1)),rz,H',⟨by have:=HJ5.out;have:=HJ27.out;have:=HK3.out;have:=HK4.out;have:=HK5.out;have:=HK6.out;have:=HK7.out;omega⟩,⟨br HO_9.out⟩,⟨br HO_11.out⟩,⟨br HO_13.out⟩,⟨bk BK463.out⟩,⟨bk BK469.out⟩,⟨bk BK470.out⟩,⟨bz⟩⟩
                                                  · replace c129:=Bool.eq_false_iff.mpr c129;subst c129;rw[if_neg (show ¬ (false=true) by decide)]at H;exact absurd H (by simp)
                                                · replace c128:=Bool.eq_false_iff.mpr c128;subst c128;rw[if_neg (show ¬ (false=true) by decide)]at H;exact absurd H (by simp)
                                  · skip
                                    as_aux_lemma=>
                                    rw[if_neg c105]at H;have c105b0:=decide_eq_false c105;clear c105;have HC131:=m0 H;clear H;obtain⟨Ao132,co132,eo132⟩:=Kd.R_slice HO_9.out;subst eo132
                                    go_upto_region 50 with (fail)
                                    go_cut [328] (fun v328 wc=>∃ (kq:Nat) (x328_130:Bool),v328= .bool x328_130∧Aside0 (Lw_CloudApart.j9 kq l0 x328_130 a1_0 a1_1 a1_2 a1_3 a1_4 a1_5=some r)∧Aside0 (kq≤k5)∧Aside0 (wc.heap[gb463]?=some (.cells #[.int .i64 a1_0,.int .i64 a1_1,.int .i64 a1_2,.int .i64 a1_3,.int .i64 a1_4,.int .i64 a1_5] 28 (0,0)))∧Aside0 (wc.heap[gb469]?=some (.cells #[.int .i64 a1_3,.int .i64 a1_4,.int .i64 1] 26 (0,0)))∧Aside0 (wc.heap[gb470]?=some (.cells #[.int .i64 (wrap64 (a1_3-a2)),.int .i64 a1_4,.int .i64 a1_5] 26 (0,0)))∧Aside0 (Below w.heap.size w wc))
                                    case first=>
                                      have H:=HC131.out;clear HC131;replace H:=oa H;obtain⟨t519,A133,H⟩:=H;(try dsimp only at H)
                                      by_cases c134:t519=0
                                      · skip
                                        as_aux_lemma=>
                                        rw[if_pos c134]at H;have c134b0:=beq_iff_eq.mpr c134;have c134b1:=bne_eq_false_iff_eq.mpr c134;clear c134
                                        (first|rw[c134b0]|(simp only[i64_w,i32_w];rw[c134b0])|skip)
                                        replace H:=oa H;obtain⟨t520,A135,H⟩:=H;(try dsimp only at H)
                                        by_cases c136:t520=0
                                        · skip
                                          as_aux_lemma=>
                                          rw[if_pos c136]at H;have c136b0:=beq_iff_eq.mpr c136;have c136b1:=bne_eq_false_iff_eq.mpr c136;clear c136;replace H:=oa H;obtain⟨t521,A137,H⟩:=H;(try dsimp only at H);have H':=m0 H;clear H;have hnb138:=NB463_469.out;have hnc138:=NB469_463.out;have hnb139:=NB463_470.out;have hnc139:=NB470_463.out;obtain⟨hcz140_0,hcz140_1,hcz140_2,hcz140_3,hcz140_4,hcz140_5,hfz140_0,hfz140_1,hfz140_2,hfz140_3,hfz140_4,hfz140_5⟩:=b6 BK463
                                          go_wp2_with (first|((with_reducible refine gc 14 rfl ?_);refine gl (some 312) Tryz.func14 #[.int .i64 a1_0] ?_;(with_reducible refine(Rf_ConstantErr.calls a1_0 t519 _ A133.out).mono ?_);rintro e w' ⟨rfl,⟨nd,rfl⟩⟩;refine⟨_,rfl,?_⟩)|(go_at_call 15;(with_reducible refine(Rf_PartErr.calls k5 a1_1 a1_2 t520 _ A135.out).mono ?_);rintro e w141 ⟨rfl,hb⟩;replace HO_9:=rb HO_9 hb;replace HO_11:=rb HO_11 hb;replace HO_13:=rb HO_13 hb;replace BK463:=bb BK463 hb;replace BK469:=bb BK469 hb;replace BK470:=bb BK470 hb;replace HB:=sb HB hb;(try clear hb);obtain⟨hcz142_0,hcz142_1,hcz142_2,hcz142_3,hcz142_4,hcz142_5,hfz142_0,hfz142_1,hfz142_2,hfz142_3,hfz142_4,hfz142_5⟩:=b6 BK463)|(go_at_call 16;(with_reducible refine(Rf_Rest.calls k5 _ _ l0 a1_0 (l0.length:Int) t521 _ ?side1 ?side2 A137.out).mono ?_);(case side1=>exact cb HR0 HB);(case side2=>exact HC0.out);rintro e w' ⟨rfl,⟨nd,rfl⟩⟩))
                                          go_meet
                                          case rel=>exact⟨_,(decide (t521<0)),rz,H',⟨by have:=HJ5.out;have:=HJ27.out;have:=HK3.out;have:=HK4.out;have:=HK5.out;first|omega|exact Nat.le_refl _⟩,⟨bk BK463.out⟩,⟨bk BK469.out⟩,⟨bk BK470.out⟩,⟨bz⟩⟩
                                        · skip
                                          as_aux_lemma=>
                                          rw[if_neg c136]at H;have c136b0:=beq_eq_false_iff_ne.mpr c136;have c136b1:=bne_iff_ne.mpr c136;have H':=m0 H;clear H;have hnb143:=NB463_469.out;have hnc143:=NB469_463.out;have hnb144:=NB463_470.out;have hnc144:=NB470_463.out;obtain⟨hcz145_0,hcz145_1,hcz145_2,hcz145_3,hcz145_4,hcz145_5,hfz145_0,hfz145_1,hfz145_2,hfz145_3,hfz145_4,hfz145_5⟩:=b6 BK463
                                          go_wp2_with (first|((with_reducible refine gc 14 rfl ?_);refine gl (some 312) Tryz.func14 #[.int .i64 a1_0] ?_;(with_reducible refine(Rf_ConstantErr.calls a1_0 t519 _ A133.out).mono ?_);rintro e w' ⟨rfl,⟨nd,rfl⟩⟩;refine⟨_,rfl,?_⟩)|(go_at_call 15;(with_reducible refine(Rf_PartErr.calls k5 a1_1 a1_2 t520 _ A135.out).mono ?_);rintro e w146 ⟨rfl,hb⟩;replace HO_9:=rb HO_9 hb;replace HO_11:=rb HO_11 hb;replace HO_13:=rb HO_13 hb;replace BK463:=bb BK463 hb;replace BK469:=bb BK469 hb;replace BK470:=bb BK470 hb;replace HB:=sb HB hb;(try clear hb)))
                                          go_meet
                                          case rel=>exact⟨_,(true),rz,H',⟨by have:=HJ5.out;have:=HJ27.out;have:=HK3.out;have:=HK4.out;have:=HK5.out;first|omega|exact Nat.le_refl _⟩,⟨bk BK463.out⟩,⟨bk BK469.out⟩,⟨bk BK470.out⟩,⟨bz⟩⟩
                                      · skip
                                        as_aux_lemma=>
                                        rw[if_neg c134]at H;have c134b0:=beq_eq_false_iff_ne.mpr c134;have c134b1:=bne_iff_ne.mpr c134
                                        (first|rw[c134b0]|(simp only[i64_w,i32_w];rw[c134b0])|skip)
                                        have H':=m0 H;clear H;have hnb147:=NB463_469.out;have hnc147:=NB469_463.out;have hnb148:=NB463_470.out;have hnc148:=NB470_463.out;obtain⟨hcz149_0,hcz149_1,hcz149_2,hcz149_3,hcz149_4,hcz149_5,hfz149_0,hfz149_1,hfz149_2,hfz149_3,hfz149_4,hfz149_5⟩:=b6 BK463
                                        go_wp2_with (first|((with_reducible refine gc 14 rfl ?_);refine gl (some 312) Tryz.func14 #[.int .i64 a1_0] ?_;(with_reducible refine(Rf_ConstantErr.calls a1_0 t519 _ A133.out).mono ?_);rintro e w' ⟨rfl,⟨nd,rfl⟩⟩;refine⟨_,rfl,?_⟩))
                                        go_meet
                                        case rel=>exact⟨_,(true),rz,H',⟨by have:=HJ5.out;have:=HJ27.out;have:=HK3.out;have:=HK4.out;have:=HK5.out;first|omega|exact Nat.le_refl _⟩,⟨bk BK463.out⟩,⟨bk BK469.out⟩,⟨bk BK470.out⟩,⟨bz⟩⟩
                                    case rest =>
                                      as_aux_lemma=>
                                      clear HC131
                                      try clear hx5
                                      try clear hx51
                                      try clear hcz140_0
                                      try clear hcz140_1
                                      try clear hcz140_2
                                      try clear hcz140_3
                                      try clear hcz140_4
                                      try clear hcz140_5
                                      try clear hcz142_0
                                      try clear hcz142_1
                                      try clear hcz142_2
                                      try clear hcz142_3
                                      try clear hcz142_4
                                      try clear hcz142_5
                                      try clear hcz145_0
                                      try clear hcz145_1
                                      try clear hcz145_2
                                      try clear hcz145_3
                                      try clear hcz145_4
                                      try clear hcz145_5
                                      try clear hcz149_0
                                      try clear hcz149_1
                                      try clear hcz149_2
                                      try clear hcz149_3
                                      try clear hcz149_4
                                      try clear hcz149_5
                                      try clear hfz140_0
                                      try clear hfz140_1
                                      try clear hfz140_2
                                      try clear hfz140_3
                                      try clear hfz140_4
                                      try clear hfz140_5
                                      try clear hfz142_0
                                      try clear hfz142_1
                                      try clear hfz142_2
                                      try clear hfz142_3
                                      try clear hfz142_4
                                      try clear hfz142_5
                                      try clear hfz145_0
                                      try clear hfz145_1
                                      try clear hfz145_2
                                      try clear hfz145_3
                                      try clear hfz145_4
                                      try clear hfz145_5
                                      try clear hfz149_0
                                      try clear hfz149_1
                                      try clear hfz149_2
                                      try clear hfz149_3
                                      try clear hfz149_4
                                      try clear hfz149_5
                                      try clear hx515_0
                                      try clear hx515_1
                                      try clear hx516_0
                                      try clear hx516_1
                                      obtain⟨kq,x328_130,rfl,HA,HJ130,BK463,BK469,BK470,HB⟩:=hcut
                                      cases kq with
                                      |zero=>exact absurd HA.out (by simp[Lw_CloudApart.j9])
                                      | succ kj130=>
                                        have H:=HA.out;clear HA;simp only[Lw_CloudApart.j9]at H
                                        by_cases c150:x328_130=true
                                        · subst c150;rw[if_pos rfl]at H;obtain rfl:=Option.some.inj H
                                          go_wp2
                                          go_ret
                                          exact ez
                                        · skip
                                          as_aux_lemma=>
                                          replace c150:=Bool.eq_false_iff.mpr c150;subst c150;rw[if_neg (show ¬ (false=true) by decide)]at H;replace H:=oa H;obtain⟨t522,A151,H⟩:=H;(try dsimp only at H);replace H:=oa H;obtain⟨⟨t525,t526⟩,A152,H⟩:=H;(try dsimp only at H);replace H:=oa H;obtain⟨t527,A153,H⟩:=H;(try dsimp only at H);replace H:=oa H;obtain⟨⟨t530,t531⟩,A154,H⟩:=H;(try dsimp only at H)
                                          by_cases c155:t526=0
                                          · skip
                                            as_aux_lemma=>
                                            rw[if_pos c155]at H;have c155b0:=beq_iff_eq.mpr c155;have c155b1:=bne_eq_false_iff_eq.mpr c155;clear c155
                                            by_cases c156:t531=0
                                            · rw[if_pos c156]at H;have c156b0:=beq_iff_eq.mpr c156;have c156b1:=bne_eq_false_iff_eq.mpr c156;clear c156;replace H:=oa H;obtain⟨t532,A157,H⟩:=H;(try dsimp only at H)
                                              by_cases c158:t532=true
                                              · skip
                                                as_aux_lemma=>
                                                subst c158;rw[if_pos rfl]at H;obtain rfl:=Option.some.inj H
                                                try go_wp2
                                                replace BK463:=bd BK463;replace BK469:=bd BK469;replace BK470:=bd BK470;replace HB:=sd HB;refine start_ (n:=12) (S:=fun w'=>w'.cell? ⟨gb463,0,none⟩=some (.int .i64 a1_0)∧w'.cell? ⟨gb463,1,none⟩=some (.int .i64 a1_1)∧w'.cell? ⟨gb463,2,none⟩=some (.int .i64 a1_2)∧w'.cell? ⟨gb463,3,none⟩=some (.int .i64 a1_3)∧w'.cell? ⟨gb463,4,none⟩=some (.int .i64 a1_4)∧w'.cell? ⟨gb463,5,none⟩=some (.int .i64 a1_5)) (ds:=[]) _ (by kernel_rfl) rfl rfl cz (fun hH=>?_);refine with_tabW Lw_CloudApart.tab52 Lw_CloudApart.bits52 (fun HT_ HW_=>?_);generalize wc.drew=w159 at BK463 BK469 BK470 HB hH ⊢;refine pZ 0 (some 330) (bs 12 1) HT_ ?_;refine pZ 2 (some 332) (bs 12 5) HT_ ?_;refine pZ 4 (some 334) (bs 12 21) HT_ ?_;refine takeZ 3 (some 333) (bs 12 29) (tw HT_ HW_) hH ?_;refine takeZ 5 (some 335) (bs 12 61) (tw HT_ HW_) hH ?_;refine oneZ 1 (some 331) (bs 12 63) (o1 HT_) fun K hK=>?_;refine gz Tryz.func13 #[.slice A0 l0.length c0] ?_
                                                with_reducible refine(Bs_CopyInts.calls _ _ l0 t522 _ ?side1 ?side2 A151.out).mono ?_
                                                (case side1=>exact cb HR0 HB)
                                                (case side2=>exact HC0.out)
                                                rintro e w160 ⟨v523,rfl,ho0,hb⟩;refine⟨_,rfl,?_⟩;have HO524:=m0 (Kd.R_lower ho0 (below_size bz));replace BK463:=bb BK463 hb;replace BK469:=bb BK469 hb;replace BK470:=bb BK470 hb;replace HB:=sb HB hb;(try clear hb);(try clear ho0);obtain⟨Ao161,co161,eo161⟩:=Kd.R_slice HO524.out;subst eo161;refine hK.out _ _ cz (fun hH=>?_);clear hK K;refine nz 331 ?_;refine oneZ 6 (some 336) (bs 12 127) (o1 HT_) fun K hK=>?_;refine gz Tryz.func17 #[.slice Ao161 t522.length co161,.int .i64 a1_0,.agg #[.int .i64 a1_1,.int .i64 a1_2]] ?_
                                                with_reducible refine(L_VisibilityOf.calls kj130 _ _ t522 a1_0 a1_1 a1_2 t525 t526 _ ?side1 ?side2 A152.out).mono ?_
                                                (case side1=>exact bc (Kd.R_reads' HO524.out).2.2)
                                                (case side2=>exact(Kd.R_reads' HO524.out).2.1)
                                                rintro e w162 ⟨rfl,hb⟩;refine⟨_,rfl,?_⟩;replace HO524:=rb HO524 hb;replace BK463:=bb BK463 hb;replace BK469:=bb BK469 hb;replace BK470:=bb BK470 hb;replace HB:=sb HB hb;(try clear hb);refine hK.out _ _ cz (fun hH=>?_);clear hK K;refine nz 336 ?_;refine pZ 7 (some 329) (bs 12 255) HT_ ?_;refine pZ 8 (some 337) (bs 12 511) HT_ ?_;refine pZ 9 (some 338) (bs 12 1023) HT_ ?_;refine pZ 10 (some 25) (bs 12 2047) HT_ ?_;refine pZ 11 (some 26) (bs 12 4095) HT_ ?_;refine done_ (done_of HT_.out (by kernel_rfl)) ?_
                                                try go_wp2
                                                replace HO524:=m0 (Kd.R_drew HO524.out);replace BK463:=bd BK463;replace BK469:=bd BK469;replace BK470:=bd BK470;replace HB:=sd HB;refine start_ (n:=11) (S:=fun w'=>w'.cell? ⟨gb463,0,none⟩=some (.int .i64 a1_0)∧w'.cell? ⟨gb463,1,none⟩=some (.int .i64 a1_1)∧w'.cell? ⟨gb463,2,none⟩=some (.int .i64 a1_2)∧w'.cell? ⟨gb463,3,none⟩=some (.int .i64 a1_3)∧w'.cell? ⟨gb463,4,none⟩=some (.int .i64 a1_4)∧w'.cell? ⟨gb463,5,none⟩=some (.int .i64 a1_5)) (ds:=[]) _ (by kernel_rfl) rfl rfl cz (fun hH=>?_);refine with_tabW Lw_CloudApart.tab53 Lw_CloudApart.bits53 (fun HT_ HW_=>?_);generalize w162.drew=w163 at HO524 BK463 BK469 BK470 HB hH ⊢;refine pZ 0 (some 340) #[true,false,false,false,false,false,false,false,false,false,false] HT_ ?_;refine pZ 2 (some 342) #[true,false,true,false,false,false,false,false,false,false,false] HT_ ?_;refine pZ 4 (some 344) #[true,false,true,false,true,false,false,false,false,false,false] HT_ ?_;refine takeZ 3 (some 343) #[true,false,true,true,true,false,false,false,false,false,false] (tw HT_ HW_) hH ?_;refine oneZ 1 (some 341) #[true,true,true,true,true,false,false,false,false,false,false] (o1 HT_) fun K hK=>?_;refine gz Tryz.func13 #[.slice A0 l0.length c0] ?_
                                                with_reducible refine(Bs_CopyInts.calls _ _ l0 t527 _ ?side1 ?side2 A153.out).mono ?_
                                                (case side1=>exact cb HR0 HB)
                                                (case side2=>exact HC0.out)
                                                rintro e w164 ⟨v528,rfl,ho0,hb⟩;refine⟨_,rfl,?_⟩;have HO529:=m0 (Kd.R_lower (Kd.R_new' ho0 (Kd.R_lt (br HO524.out))) (below_size bz));replace HO524:=m0 (Kd.R_elder' (br HO524.out) (Kd.R_base ho0) hb);replace BK463:=bb BK463 hb;replace BK469:=bb BK469 hb;replace BK470:=bb BK470 hb;replace HB:=sb HB hb;(try clear hb);(try clear ho0);obtain⟨Ao165,co165,eo165⟩:=Kd.R_slice HO529.out;subst eo165;refine hK.out _ _ cz (fun hH=>?_);clear hK K;refine nz 341 ?_;refine oneZ 5 (some 345) #[true,true,true,true,true,true,false,false,false,false,false] (o1 HT_) fun K hK=>?_;refine gz Tryz.func17 #[.slice Ao165 t527.length co165,.int .i64 a1_0,.agg #[.int .i64 0,.int .i64 1]] ?_
                                                with_reducible refine(L_VisibilityOf.calls kj130 _ _ t527 a1_0 0 1 t530 t531 _ ?side1 ?side2 A154.out).mono ?_
                                                (case side1=>exact bc (Kd.R_reads' HO529.out).2.2)
                                                (case side2=>exact(Kd.R_reads' HO529.out).2.1)
                                                rintro e w166 ⟨rfl,hb⟩;refine⟨_,rfl,?_⟩;replace HO524:=rb HO524 hb;replace HO529:=rb HO529 hb;replace BK463:=bb BK463 hb;replace BK469:=bb BK469 hb;replace BK470:=bb BK470 hb;replace HB:=sb HB hb;(try clear hb);refine hK.out _ _ cz (fun hH=>?_);clear hK K;refine nz 345 ?_;refine pZ 6 (some 339) #[true,true,true,true,true,true,true,false,false,false,false] HT_ ?_;refine pZ 7 (some 346) #[true,true,true,true,true,true,true,true,false,false,false] HT_ ?_;refine pZ 8 (some 347) #[true,true,true,true,true,true,true,true,true,false,false] HT_ ?_;refine pZ 9 (some 27) #[true,true,true,true,true,true,true,true,true,true,false] HT_ ?_;refine pZ 10 (some 28) #[true,true,true,true,true,true,true,true,true,true,true] HT_ ?_;refine done_ (done_of HT_.out (by kernel_rfl)) ?_
                                                try go_wp2_with (first|(go_at_call 11;(with_reducible refine(Bs_Within.calls t525 0 t530 true _ A157.out).mono ?_);rintro e w' ⟨rfl,⟨nd,rfl⟩⟩))
                                                go_ret
                                                exact ez
                                              · replace c158:=Bool.eq_false_iff.mpr c158;subst c158;rw[if_neg (show ¬ (false=true) by decide)]at H;exact absurd H (by simp)
                                            · rw[if_neg c156]at H;exact absurd H (by simp)
                                          · rw[if_neg c155]at H;exact absurd H (by simp)
                            · rw[if_neg c104]at H;exact absurd H (by simp)
  · replace c5:=Bool.eq_false_iff.mpr c5;subst c5;rw[if_neg (show ¬ (false=true) by decide)]at H;exact absurd H (by simp)
end Go.Proofs.YteiafijbgjgiaaaGreat.A
