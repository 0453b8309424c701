/- Walks of the program's functions (printed, made shorter), each with what it computes. -/
import Derived.Test.YtggiijffaifajaaT11
namespace Go.Proofs.Ytggiijffaifajaa.A
set_option maxHeartbeats 8000000
set_option maxRecDepth 100000
open Go.RowKit Go.Proofs.YtggiijffaifajaaW.PrintWords Go.Proofs.YtggiijffaifajaaW.PrintLast Go.Proofs.YtggiijffaifajaaW.PrintMore
attribute [local go_sem] max2_int min2_int max_two min_two max_three min_three max_four min_four
set_option linter.unusedVariables false
set_option linter.unusedSimpArgs false
section
def Bs_Ints.l0:Nat→List Int→List Int→Int→Option (Bool)
 |0,_,_,_=>none
 |k+1,x0,x1,x5=>if x5<(x0.length:Int)then(if 0≤x5 then(if x5<(x1.length:Int)then(if(rd x0 x5)=(rd x1 x5)then(Bs_Ints.l0 k x0 x1 (wrap64 (x5+1)))else(some false))else(none))else(none))else(some true)
def Bs_Ints.f (k:Nat) (l0:List Int) (l1:List Int):Option (Bool):=if(l0.length:Int)=(l1.length:Int)then(Bs_Ints.l0 k l0 l1 0)else(some false)
theorem Bs_Ints.mono_l:∀ k,(∀ y0 y1 y2,LeO (Bs_Ints.l0 k y0 y1 y2) (Bs_Ints.l0 (k+1) y0 y1 y2))
 |0=>fun _ _ _ r h=>by simp[Bs_Ints.l0]at h
 | k+1=>by
  have ih0:=Bs_Ints.mono_l k
  ·intro y0 y1 y2;unfold Bs_Ints.l0
   repeat' with_reducible first
    |exact ih0 ..
    |exact LeO.refl ..
    |exact LeO.none ..
    |refine LeO.ite ?_ ?_
    |refine LeO.bind ?_ (fun _=>?_)
theorem Bs_Ints.mono:∀ a0 a1 k,LeO (Bs_Ints.f k a0 a1) (Bs_Ints.f (k+1) a0 a1):=by
 intro a0 a1 k;have ih0:=Bs_Ints.mono_l k;unfold Bs_Ints.f
 repeat' with_reducible first
  |exact ih0 ..
  |exact LeO.refl ..
  |exact LeO.none ..
  |refine LeO.ite ?_ ?_
  |refine LeO.bind ?_ (fun _=>?_)
theorem Bs_Ints.calls (k:Nat) (A0:Option Addr) (c0:Nat) (l0:List Int) (A1:Option Addr) (c1:Nat) (l1:List Int) (r:Bool) (w:World) (hr0:Kd.C (Kd.int .i64) w A0 l0.length l0) (hc0:l0.length≤c0) (hr1:Kd.C (Kd.int .i64) w A1 l1.length l1) (hc1:l1.length≤c1) (H:Bs_Ints.f k l0 l1=some r):
  Calls Try.prog 9 #[.slice A0 l0.length c0,.slice A1 l1.length c1] w fun e w'=>e= .returned (.bool r)∧Drawn0 w w':=by
 have HR0:=m0 hr0;have HC0:=m0 hc0;clear hr0 hc0;have HR1:=m0 hr1;have HC1:=m0 hc1;clear hr1 hc1;unfold Bs_Ints.f at H
 by_cases c3:(l0.length:Int)=(l1.length:Int)
 ·rw [if_pos c3]at H;have c3b0:=beq_iff_eq.mpr c3;have c3b1:=bne_eq_false_iff_eq.mpr c3;have c3b2:(l0.length==l1.length)=true:=by first|simpa using c3|(simp at c3 ⊢;omega)
  clear c3;have H':=m0 H;clear H;go_enter Try.func9,Try.ntmps9
  go_wp2
  repeat(go_quiet (fail);try go_wp2)
  go_loopg [5] k (fun kq v5 w'=>∃ (x5_1:Int),v5= .int .i64 x5_1∧Aside0 (Bs_Ints.l0 kq l0 l1 x5_1=some r)∧Aside0 (kq≤k)∧Drawn0 w w')
  case atStart=>exact⟨(0),rz,H',⟨Nat.le_refl _⟩,by repeat(first|exact Drawn0.refl _|apply Drawn0.step)⟩
  case round=>
   clear H';obtain⟨x5_1,rfl,HA,HK1,⟨m1,rfl⟩⟩:=hrel
   cases gk with
   |zero=>exact absurd HA.out (by simp[Bs_Ints.l0])
   | succ k1=>
    have H:=HA.out;clear HA;simp only[Bs_Ints.l0]at H
    by_cases c4:x5_1<(l0.length:Int)
    ·rw [if_pos c4]at H;have c4b0:=decide_eq_true c4;clear c4
     by_cases c5:0≤x5_1
     ·rw [if_pos c5]at H;have c5b0:=decide_eq_true c5;clear c5
      by_cases c6:x5_1<(l1.length:Int)
      ·rw [if_pos c6]at H;have c6b0:=decide_eq_true c6;clear c6
       by_cases c7:(rd l0 x5_1)=(rd l1 x5_1)
       ·rw [if_pos c7]at H;have c7b0:=beq_iff_eq.mpr c7;have c7b1:=bne_eq_false_iff_eq.mpr c7;clear c7;have H':=m0 H;clear H;have p317:0≤(x5_1:Int):=od;have q317:x5_1<(l0.length:Int):=od;obtain⟨ad317,e317,hx317_0⟩:=Kd.at_int HR0.out x5_1 p317 q317
        cases e317
        replace p317:=eq_true p317;replace q317:=eq_true q317;have p318:0≤(x5_1:Int):=od;have q318:x5_1<(l1.length:Int):=od;obtain⟨ad318,e318,hx318_0⟩:=Kd.at_int HR1.out x5_1 p318 q318
        cases e318
        replace p318:=eq_true p318;replace q318:=eq_true q318
        go_wp2
        repeat(go_quiet (fail);try go_wp2)
        go_roundg k1
        case measure=>have:=HK1.out;omega
        case rel=>exact⟨(wrap64 (x5_1+1)),rz,H',⟨by have:=HK1.out;omega⟩,by repeat(first|exact Drawn0.refl _|apply Drawn0.step)⟩
       ·rw [if_neg c7]at H;have c7b0:=beq_eq_false_iff_ne.mpr c7;have c7b1:=bne_iff_ne.mpr c7;obtain rfl:=Option.some.inj H;have p317:0≤(x5_1:Int):=od;have q317:x5_1<(l0.length:Int):=od;obtain⟨ad317,e317,hx317_0⟩:=Kd.at_int HR0.out x5_1 p317 q317
        cases e317
        replace p317:=eq_true p317;replace q317:=eq_true q317;have p318:0≤(x5_1:Int):=od;have q318:x5_1<(l1.length:Int):=od;obtain⟨ad318,e318,hx318_0⟩:=Kd.at_int HR1.out x5_1 p318 q318
        cases e318
        replace p318:=eq_true p318;replace q318:=eq_true q318
        go_wp2
        repeat(go_quiet (fail);try go_wp2)
        go_ret
        exact⟨rz,by repeat(first|exact Drawn0.refl _|apply Drawn0.step)⟩
      ·rw [if_neg c6]at H;exact absurd H (by simp)
     ·rw [if_neg c5]at H;exact absurd H (by simp)
    ·rw [if_neg c4]at H;have c4b0:=decide_eq_false c4;clear c4;obtain rfl:=Option.some.inj H
     go_wp2
     repeat(go_quiet (fail);try go_wp2)
     go_ret
     exact⟨rz,by repeat(first|exact Drawn0.refl _|apply Drawn0.step)⟩
 ·rw [if_neg c3]at H;have c3b0:=beq_eq_false_iff_ne.mpr c3;have c3b1:=bne_iff_ne.mpr c3;have c3b2:(l0.length==l1.length)=false:=by first|simpa using c3|(simp at c3 ⊢;omega)
  obtain rfl:=Option.some.inj H;go_enter Try.func9,Try.ntmps9
  go_wp2
  repeat(go_quiet (fail);try go_wp2)
  go_ret
  exact⟨rz,by repeat(first|exact Drawn0.refl _|apply Drawn0.step)⟩
end
section
theorem eqA29 (d:Nat) (w:World) (x0 y0:Int) (x1 y1:Int):
  (Op.equalIn (d+2) 29 (.agg #[.int .i64 x0,.int .i64 x1]) (.agg #[.int .i64 y0,.int .i64 y1])).run Try.prog w= .ok (x0==y0 && (x1==y1)) w:=by
 refine eqA_of Try.underlying29 (by kernel_rfl) ?_;refine eqf_cons (by rfl) (by go_simp;rfl) (by go_simp;rfl) (by go_simp) ?_;exact eqf_last (by rfl) (by go_simp;rfl) (by go_simp;rfl) (by go_simp)
end
section
attribute [local go_sem high] eqA29
def Bs_Ranges.l0:Nat→List (S29)→List (S29)→Int→Option (Bool)
 |0,_,_,_=>none
 |k+1,x0,x1,x5=>if x5<(x0.length:Int)then(if 0≤x5 then(if x5<(x1.length:Int)then(if(!(((rd_T29 x0 x5).f0)==((rd_T29 x1 x5).f0)) || (!(((rd_T29 x0 x5).f1)==((rd_T29 x1 x5).f1))))=true then(some false)else(Bs_Ranges.l0 k x0 x1 (wrap64 (x5+1))))else(none))else(none))else(some true)
def Bs_Ranges.f (k:Nat) (l0:List (S29)) (l1:List (S29)):Option (Bool):=if(l0.length:Int)=(l1.length:Int)then(Bs_Ranges.l0 k l0 l1 0)else(some false)
theorem Bs_Ranges.mono_l:∀ k,(∀ y0 y1 y2,LeO (Bs_Ranges.l0 k y0 y1 y2) (Bs_Ranges.l0 (k+1) y0 y1 y2))
 |0=>fun _ _ _ r h=>by simp[Bs_Ranges.l0]at h
 | k+1=>by
  have ih0:=Bs_Ranges.mono_l k
  ·intro y0 y1 y2;unfold Bs_Ranges.l0
   repeat' with_reducible first
    |exact ih0 ..
    |exact LeO.refl ..
    |exact LeO.none ..
    |refine LeO.ite ?_ ?_
    |refine LeO.bind ?_ (fun _=>?_)
theorem Bs_Ranges.mono:∀ a0 a1 k,LeO (Bs_Ranges.f k a0 a1) (Bs_Ranges.f (k+1) a0 a1):=by
 intro a0 a1 k;have ih0:=Bs_Ranges.mono_l k;unfold Bs_Ranges.f
 repeat' with_reducible first
  |exact ih0 ..
  |exact LeO.refl ..
  |exact LeO.none ..
  |refine LeO.ite ?_ ?_
  |refine LeO.bind ?_ (fun _=>?_)
theorem Bs_Ranges.calls (k:Nat) (A0:Option Addr) (c0:Nat) (l0:List (S29)) (A1:Option Addr) (c1:Nat) (l1:List (S29)) (r:Bool) (w:World) (hr0:Kd.C k29 w A0 l0.length l0) (hc0:l0.length≤c0) (hr1:Kd.C k29 w A1 l1.length l1) (hc1:l1.length≤c1) (H:Bs_Ranges.f k l0 l1=some r):
  Calls Try.prog 10 #[.slice A0 l0.length c0,.slice A1 l1.length c1] w fun e w'=>e= .returned (.bool r)∧Drawn0 w w':=by
 have hu29:=Try.underlying29;have HR0:=m0 hr0;have HC0:=m0 hc0;clear hr0 hc0;have HR1:=m0 hr1;have HC1:=m0 hc1;clear hr1 hc1;unfold Bs_Ranges.f at H
 by_cases c3:(l0.length:Int)=(l1.length:Int)
 ·rw [if_pos c3]at H;have c3b0:=beq_iff_eq.mpr c3;have c3b1:=bne_eq_false_iff_eq.mpr c3;have c3b2:(l0.length==l1.length)=true:=by first|simpa using c3|(simp at c3 ⊢;omega)
  clear c3;have H':=m0 H;clear H;go_enter Try.func10,Try.ntmps10
  go_wp2
  repeat(go_quiet (fail);try go_wp2)
  go_loopg [5] k (fun kq v5 w'=>∃ (x5_1:Int),v5= .int .i64 x5_1∧Aside0 (Bs_Ranges.l0 kq l0 l1 x5_1=some r)∧Aside0 (kq≤k)∧Drawn0 w w')
  case atStart=>exact⟨(0),rz,H',⟨Nat.le_refl _⟩,by repeat(first|exact Drawn0.refl _|apply Drawn0.step)⟩
  case round=>
   clear H';obtain⟨x5_1,rfl,HA,HK1,⟨m1,rfl⟩⟩:=hrel
   cases gk with
   |zero=>exact absurd HA.out (by simp[Bs_Ranges.l0])
   | succ k1=>
    have H:=HA.out;clear HA;simp only[Bs_Ranges.l0]at H
    by_cases c4:x5_1<(l0.length:Int)
    ·rw [if_pos c4]at H;have c4b0:=decide_eq_true c4;clear c4
     by_cases c5:0≤x5_1
     ·rw [if_pos c5]at H;have c5b0:=decide_eq_true c5;clear c5
      by_cases c6:x5_1<(l1.length:Int)
      ·rw [if_pos c6]at H;have c6b0:=decide_eq_true c6;clear c6
       by_cases c7:(!(((rd_T29 l0 x5_1).f0)==((rd_T29 l1 x5_1).f0)) || (!(((rd_T29 l0 x5_1).f1)==((rd_T29 l1 x5_1).f1))))=true
       ·rw [if_pos c7]at H;have c7b0:(!(((rd_T29 l0 x5_1).f0)==((rd_T29 l1 x5_1).f0)) || (!(((rd_T29 l0 x5_1).f1)==((rd_T29 l1 x5_1).f1))))=true:=c7;clear c7;obtain rfl:=Option.some.inj H;have p319:0≤(x5_1:Int):=od;have q319:x5_1<(l0.length:Int):=od;obtain⟨ad319,e319,hx319_0,hx319_1⟩:=at_T29 HR0.out x5_1 p319 q319
        cases e319
        replace p319:=eq_true p319;replace q319:=eq_true q319;have p320:0≤(x5_1:Int):=od;have q320:x5_1<(l1.length:Int):=od;obtain⟨ad320,e320,hx320_0,hx320_1⟩:=at_T29 HR1.out x5_1 p320 q320
        cases e320
        replace p320:=eq_true p320;replace q320:=eq_true q320
        go_wp2
        repeat(go_quiet (fail);try go_wp2)
        go_ret
        exact⟨rz,by repeat(first|exact Drawn0.refl _|apply Drawn0.step)⟩
       ·rw [if_neg c7]at H;have c7b0:(!(((rd_T29 l0 x5_1).f0)==((rd_T29 l1 x5_1).f0)) || (!(((rd_T29 l0 x5_1).f1)==((rd_T29 l1 x5_1).f1))))=false:=by simpa using c7
        clear c7;have H':=m0 H;clear H;have p319:0≤(x5_1:Int):=od;have q319:x5_1<(l0.length:Int):=od;obtain⟨ad319,e319,hx319_0,hx319_1⟩:=at_T29 HR0.out x5_1 p319 q319
        cases e319
        replace p319:=eq_true p319;replace q319:=eq_true q319;have p320:0≤(x5_1:Int):=od;have q320:x5_1<(l1.length:Int):=od;obtain⟨ad320,e320,hx320_0,hx320_1⟩:=at_T29 HR1.out x5_1 p320 q320
        cases e320
        replace p320:=eq_true p320;replace q320:=eq_true q320
        go_wp2
        repeat(go_quiet (fail);try go_wp2)
        go_roundg k1
        case measure=>have:=HK1.out;omega
        case rel=>exact⟨(wrap64 (x5_1+1)),rz,H',⟨by have:=HK1.out;omega⟩,by repeat(first|exact Drawn0.refl _|apply Drawn0.step)⟩
      ·rw [if_neg c6]at H;exact absurd H (by simp)
     ·rw [if_neg c5]at H;exact absurd H (by simp)
    ·rw [if_neg c4]at H;have c4b0:=decide_eq_false c4;clear c4;obtain rfl:=Option.some.inj H
     go_wp2
     repeat(go_quiet (fail);try go_wp2)
     go_ret
     exact⟨rz,by repeat(first|exact Drawn0.refl _|apply Drawn0.step)⟩
 ·rw [if_neg c3]at H;have c3b0:=beq_eq_false_iff_ne.mpr c3;have c3b1:=bne_iff_ne.mpr c3;have c3b2:(l0.length==l1.length)=false:=by first|simpa using c3|(simp at c3 ⊢;omega)
  obtain rfl:=Option.some.inj H;go_enter Try.func10,Try.ntmps10
  go_wp2
  repeat(go_quiet (fail);try go_wp2)
  go_ret
  exact⟨rz,by repeat(first|exact Drawn0.refl _|apply Drawn0.step)⟩
end
section
def L_MiddleOf_1.f (a0:Int):Option (Int):=(L_isHeight.f a0).bind fun t321=>((L_unless.f t321 2).bind fun t322=>(some t322))
theorem L_MiddleOf_1.calls (a0:Int) (r:Int) (w:World) (H:L_MiddleOf_1.f a0=some r):
  Calls Try.prog 33 #[.int .i64 a0] w fun e w'=>e= .returned (.int .i64 r)∧Drawn0 w w':=by
 unfold L_MiddleOf_1.f at H;replace H:=oa H;obtain⟨t321,A2,H⟩:=H;(try dsimp only at H);replace H:=oa H;obtain⟨t322,A3,H⟩:=H;(try dsimp only at H);obtain rfl:=Option.some.inj H;go_enter Try.func33,Try.ntmps33
 go_wp2_with (first|((with_reducible refine gc 34 rfl ?_);refine gl (some 4) Try.func34 #[.int .i64 a0] ?_;(with_reducible refine(L_isHeight.calls a0 t321 _ A2.out).mono ?_);rintro e w' ⟨rfl,⟨nd,rfl⟩⟩;refine⟨_,rfl,?_⟩)|((with_reducible refine gc 22 rfl ?_);refine gl (some 5) Try.func22 #[.bool t321,.int .i64 2] ?_;(with_reducible refine(L_unless.calls t321 2 t322 _ A3.out).mono ?_);rintro e w' ⟨rfl,⟨nd,rfl⟩⟩;refine⟨_,rfl,?_⟩))
 go_ret
 exact⟨rz,by repeat(first|exact Drawn0.refl _|apply Drawn0.step)⟩
end
section
def L_each_int_MiddleOf_1.l0:Nat→List Int→Int→Int→Option (Int×Int)
 |0,_,_,_=>none
 |k+1,x9,x10,x11=>if x11<x10 then(if 0≤x11 then(if x11<(x9.length:Int)then((L_MiddleOf_1.f (rd x9 x11)).bind fun t324=>(if t324=0 then(L_each_int_MiddleOf_1.l0 k x9 x10 (wrap64 (x11+1)))else(some (x11,t324))))else(none))else(none))else(some (0,0))
def L_each_int_MiddleOf_1.f (k:Nat) (l0:List Int)  :Option (Int×Int):=L_each_int_MiddleOf_1.l0 k l0 (l0.length:Int) 0
theorem L_each_int_MiddleOf_1.mono_l:∀ k,(∀ y0 y1 y2,LeO (L_each_int_MiddleOf_1.l0 k y0 y1 y2) (L_each_int_MiddleOf_1.l0 (k+1) y0 y1 y2))
 |0=>fun _ _ _ r h=>by simp[L_each_int_MiddleOf_1.l0]at h
 | k+1=>by
  have ih0:=L_each_int_MiddleOf_1.mono_l k
  ·intro y0 y1 y2;unfold L_each_int_MiddleOf_1.l0
   repeat' with_reducible first
    |exact ih0 ..
    |exact LeO.refl ..
    |exact LeO.none ..
    |refine LeO.ite ?_ ?_
    |refine LeO.bind ?_ (fun _=>?_)
theorem L_each_int_MiddleOf_1.mono:∀ a0 k,LeO (L_each_int_MiddleOf_1.f k a0) (L_each_int_MiddleOf_1.f (k+1) a0):=by
 intro a0 k;have ih0:=L_each_int_MiddleOf_1.mono_l k;unfold L_each_int_MiddleOf_1.f
 repeat' with_reducible first
  |exact ih0 ..
  |exact LeO.refl ..
  |exact LeO.none ..
  |refine LeO.ite ?_ ?_
  |refine LeO.bind ?_ (fun _=>?_)
theorem L_each_int_MiddleOf_1.calls (k:Nat) (A0:Option Addr) (c0:Nat) (l0:List Int)  (r1:Int) (r2:Int) (w:World) (hr0:Kd.C (Kd.int .i64) w A0 l0.length l0) (hc0:l0.length≤c0) (H:L_each_int_MiddleOf_1.f k l0=some (r1,r2)):
  Calls Try.prog 32 #[.slice A0 l0.length c0,.func (.func 33) #[] #[]] w fun e w'=>e= .returned (.tuple #[.int .i64 r1,.int .i64 r2])∧Drawn0 w w':=by
 have HR0:=m0 hr0;have HC0:=m0 hc0;clear hr0 hc0;unfold L_each_int_MiddleOf_1.f at H;have H':=m0 H;clear H;go_enter Try.func32,Try.ntmps32
 go_wp2
 go_loopg [11] k (fun kq v11 w'=>∃ (x11_1:Int),v11= .int .i64 x11_1∧Aside0 (L_each_int_MiddleOf_1.l0 kq l0 (l0.length:Int) x11_1=some (r1,r2))∧Aside0 (kq≤k)∧Drawn0 w w')
 case atStart=>exact⟨(0),rz,H',⟨Nat.le_refl _⟩,by repeat(first|exact Drawn0.refl _|apply Drawn0.step)⟩
 case round=>
  clear H';obtain⟨x11_1,rfl,HA,HK1,⟨m1,rfl⟩⟩:=hrel
  cases gk with
  |zero=>exact absurd HA.out (by simp[L_each_int_MiddleOf_1.l0])
  | succ k1=>
   have H:=HA.out;clear HA;simp only[L_each_int_MiddleOf_1.l0]at H
   by_cases c3:x11_1<(l0.length:Int)
   ·rw [if_pos c3]at H;have c3b0:=decide_eq_true c3;clear c3
    by_cases c4:0≤x11_1
    ·rw [if_pos c4]at H;have c4b0:=decide_eq_true c4;clear c4
     by_cases c5:x11_1<(l0.length:Int)
     ·rw [if_pos c5]at H;have c5b0:=decide_eq_true c5;clear c5;replace H:=oa H;obtain⟨t324,A6,H⟩:=H;(try dsimp only at H)
      by_cases c7:t324=0
      ·rw [if_pos c7]at H;have c7b0:=beq_iff_eq.mpr c7;have c7b1:=bne_eq_false_iff_eq.mpr c7;clear c7;have H':=m0 H;clear H;have p323:0≤(x11_1:Int):=od;have q323:x11_1<(l0.length:Int):=od;obtain⟨ad323,e323,hx323_0⟩:=Kd.at_int HR0.out x11_1 p323 q323
       cases e323
       replace p323:=eq_true p323;replace q323:=eq_true q323
       go_wp2_with (first|(go_at_call 33;(with_reducible refine(L_MiddleOf_1.calls (rd l0 x11_1) t324 _ A6.out).mono ?_);rintro e w' ⟨rfl,⟨nd,rfl⟩⟩))
       go_roundg k1
       case measure=>have:=HK1.out;omega
       case rel=>exact⟨(wrap64 (x11_1+1)),rz,H',⟨by have:=HK1.out;omega⟩,by repeat(first|exact Drawn0.refl _|apply Drawn0.step)⟩
      ·rw [if_neg c7]at H;have c7b0:=beq_eq_false_iff_ne.mpr c7;have c7b1:=bne_iff_ne.mpr c7;simp only[Option.some.injEq,Prod.mk.injEq]at H;obtain⟨rfl,rfl⟩:=H;have p323:0≤(x11_1:Int):=od;have q323:x11_1<(l0.length:Int):=od;obtain⟨ad323,e323,hx323_0⟩:=Kd.at_int HR0.out x11_1 p323 q323
       cases e323
       replace p323:=eq_true p323;replace q323:=eq_true q323
       go_wp2_with (first|(go_at_call 33;(with_reducible refine(L_MiddleOf_1.calls (rd l0 x11_1) t324 _ A6.out).mono ?_);rintro e w' ⟨rfl,⟨nd,rfl⟩⟩))
       go_ret2
       exact⟨rz,by repeat(first|exact Drawn0.refl _|apply Drawn0.step)⟩
     ·rw [if_neg c5]at H;exact absurd H (by simp)
    ·rw [if_neg c4]at H;exact absurd H (by simp)
   ·rw [if_neg c3]at H;have c3b0:=decide_eq_false c3;clear c3;simp only[Option.some.injEq,Prod.mk.injEq]at H;obtain⟨rfl,rfl⟩:=H
    go_wp2
    go_ret2
    exact⟨rz,by repeat(first|exact Drawn0.refl _|apply Drawn0.step)⟩
end
section
def L_MiddleOf.f (k:Nat) (l0:List Int):Option (Int×Int):=(L_unless.f (decide ((l0.length:Int)>0)) 10).bind fun t325=>((L_unless.f (decide ((l0.length:Int)≤15)) 8).bind fun t326=>((L_first.f k (([t325,t326]:List Int))).bind fun t330=>(if t330=0 then((L_each_int_MiddleOf_1.f k l0).bind fun bt331=>(if bt331.2=0 then((L_sorted_ints.f l0).bind fun t334=>(if 0≤(wrap64 (Int.tdiv (wrap64 ((l0.length:Int)-1)) 2))then(if(wrap64 (Int.tdiv (wrap64 ((l0.length:Int)-1)) 2))<(t334.length:Int)then(some (rd t334 (wrap64 (Int.tdiv (wrap64 ((l0.length:Int)-1)) 2)),0))else(none))else(none)))else(some (0,bt331.2))))else(some (0,t330)))))
theorem L_MiddleOf.mono:∀ a0 k,LeO (L_MiddleOf.f k a0) (L_MiddleOf.f (k+1) a0):=by
 intro a0 k;unfold L_MiddleOf.f
 repeat' with_reducible first
  |exact L_each_int_MiddleOf_1.mono ..
  |exact L_first.mono ..
  |exact LeO.refl ..
  |exact LeO.none ..
  |refine LeO.ite ?_ ?_
  |refine LeO.bind ?_ (fun _=>?_)
theorem L_MiddleOf.calls (k:Nat) (A0:Option Addr) (c0:Nat) (l0:List Int) (r1:Int) (r2:Int) (w:World) (hr0:Kd.C (Kd.int .i64) w A0 l0.length l0) (hc0:l0.length≤c0) (H:L_MiddleOf.f k l0=some (r1,r2)):
  Calls Try.prog 12 #[.slice A0 l0.length c0] w fun e w'=>e= .returned (.tuple #[.int .i64 r1,.int .i64 r2])∧Below w.heap.size w w':=by
 have HR0:=m0 hr0;have HC0:=m0 hc0;clear hr0 hc0;have HB:=m0 (Below.refl w.heap.size w);unfold L_MiddleOf.f at H;replace H:=oa H;obtain⟨t325,A2,H⟩:=H;(try dsimp only at H);replace H:=oa H;obtain⟨t326,A3,H⟩:=H;(try dsimp only at H);obtain⟨y327,hy327⟩:∃ y_:List Int,y_=(([t325,t326]:List Int)):=⟨_,rfl⟩;replace H:((L_first.f k y327).bind fun t330=>(if t330=0 then((L_each_int_MiddleOf_1.f k l0).bind fun bt331=>(if bt331.2=0 then((L_sorted_ints.f l0).bind fun t334=>(if 0≤(wrap64 (Int.tdiv (wrap64 ((l0.length:Int)-1)) 2))then(if(wrap64 (Int.tdiv (wrap64 ((l0.length:Int)-1)) 2))<(t334.length:Int)then(some (rd t334 (wrap64 (Int.tdiv (wrap64 ((l0.length:Int)-1)) 2)),0))else(none))else(none)))else(some (0,bt331.2))))else(some (0,t330))))=some (r1,r2):=by first|(rw[hy327];with_reducible exact H)|(have H2_:=(Option.bind_some _ _).symm.trans H;rw[hy327];with_reducible exact H2_)|(have H2_:=(Option.bind_some _ _).symm.trans H;with_reducible exact H2_)|with_reducible exact H|(rw[hy327];exact H)|exact H
 have Ny327:=m0 hy327;clear hy327;replace H:=oa H;obtain⟨t330,A4,H⟩:=H;(try dsimp only at H)
 by_cases c5:t330=0
 ·rw [if_pos c5]at H;have c5b0:=beq_iff_eq.mpr c5;have c5b1:=bne_eq_false_iff_eq.mpr c5;clear c5;replace H:=oa H;obtain⟨⟨t331,t332⟩,A6,H⟩:=H;(try dsimp only at H)
  by_cases c7:t332=0
  ·rw [if_pos c7]at H;have c7b0:=beq_iff_eq.mpr c7;have c7b1:=bne_eq_false_iff_eq.mpr c7;clear c7;replace H:=oa H;obtain⟨t334,A8,H⟩:=H;(try dsimp only at H);obtain⟨ji9,hji9⟩:∃ j_:Int,(wrap64 (Int.tdiv (wrap64 ((l0.length:Int)-1)) 2))=j_:=⟨_,rfl⟩;replace H:(if 0≤(ji9)then(if(ji9)<(t334.length:Int)then(some (rd t334 (ji9),0))else(none))else(none))=some (r1,r2):=by first|(rw[hji9]at H;exact H)|(simp only[hji9]at H ⊢;exact H)
   (try rw[hji9]at A2);(try rw[hji9]at A3);(try rw[hji9]at A4);(try rw[hji9]at A6);(try rw[hji9]at A8);have hji9w:(IntKind.i64.wrap (Int.tdiv (wrap64 ((l0.length:Int)-1)) 2))=ji9:=(i64_w _).trans hji9
   by_cases c10:0≤(ji9)
   ·rw [if_pos c10]at H;have c10b0:=decide_eq_true c10;clear c10
    by_cases c11:(ji9)<(t334.length:Int)
    ·rw [if_pos c11]at H;have c11b0:=decide_eq_true c11;clear c11;simp only[Option.some.injEq,Prod.mk.injEq]at H;obtain⟨rfl,rfl⟩:=H;go_enter Try.func12,Try.ntmps12
     go_wp2_with (first|((with_reducible refine gc 22 rfl ?_);refine goesL_ (some 10) rfl rfl Try.func22 (by kernel_rfl) rfl #[.bool (decide ((l0.length:Int)>0)),.int .i64 10] rfl (by(try simp only[List.map_toArray,List.map_cons,List.map_nil]);first|done|rfl|(simp only[List.length_drop,List.length_take];rfl)|(simp;first|done|exact⟨rfl,rfl⟩)) ?_;(with_reducible refine(L_unless.calls (decide ((l0.length:Int)>0)) 10 t325 _ A2.out).mono ?_);rintro e w' ⟨rfl,⟨nd,rfl⟩⟩;refine⟨_,rfl,?_⟩)|((with_reducible refine gc 22 rfl ?_);refine gl (some 14) Try.func22 #[.bool (decide ((l0.length:Int)≤15)),.int .i64 8] ?_;(with_reducible refine(L_unless.calls (decide ((l0.length:Int)≤15)) 8 t326 _ A3.out).mono ?_);rintro e w' ⟨rfl,⟨nd,rfl⟩⟩;refine⟨_,rfl,?_⟩)|((with_reducible refine ga 15 rfl ?_);refine Kd.R_lit (Kd.int .i64) _ 30 ?hg (N:=15) ?hd (xs:=([t325,t326]:List Int)) (inner:=[.int .i64 t325,.int .i64 t326]) (ok:=fun _=>True) (okp:=fun _=>True) ?hr ?hp (fun _ hk=>hk) trivial (Below.refl _ _) (Nat.le_refl _) (by simp) ?_;(case hd=>rfl);(case hg=>rfl);(case hr=>first|(go_simp;done)|(go_simp;rfl));(case hp=>exact(Reps.one (ki t325) (Reps.one (ki t326) (Reps.none _ _))));intro v328 w12 ho13 hb hg_ hnew_;clear hg_ hnew_;(first|rw[← Ny327.out]at ho13|(simp only[Int.reduceToNat]at ho13;rw[← Ny327.out]at ho13));have HO329:=m0 (Kd.R_lower ho13 (below_size bz));replace HB:=sb HB hb;clear hb ho13;obtain⟨Ao14,co14,eo14⟩:=Kd.R_slice HO329.out;subst eo14)|((with_reducible refine gc 21 rfl ?_);refine gl (some 16) Try.func21 #[.slice Ao14 y327.length co14] ?_;(with_reducible refine(L_first.calls k _ _ y327 t330 _ ?side1 ?side2 A4.out).mono ?_);(case side1=>exact bc (Kd.R_reads' HO329.out).2.2);(case side2=>exact(Kd.R_reads' HO329.out).2.1);rintro e w' ⟨rfl,⟨nd,rfl⟩⟩;refine⟨_,rfl,?_⟩)|((with_reducible refine gc 32 rfl ?_);refine gl (some 22) Try.func32 #[.slice A0 l0.length c0,.func (.func 33) #[] #[]] ?_;(with_reducible refine(L_each_int_MiddleOf_1.calls k _ _ l0  t331 t332 _ ?side1 ?side2 A6.out).mono ?_);(case side1=>repeat(first|exact(Kd.C_below HR0.out bz)|(with_reducible refine Kd.C_alloc ?_ _)|(with_reducible refine Kd.C_drewN ?_ _)|(with_reducible refine Kd.C_drew ?_)));(case side2=>exact HC0.out);rintro e w' ⟨rfl,⟨nd,rfl⟩⟩;refine⟨_,rfl,?_⟩)|((with_reducible refine gc 36 rfl ?_);refine goesL_ (some 29) rfl rfl Try.func36 (by kernel_rfl) rfl #[.slice A0 l0.length c0] rfl (by(try simp only[List.map_toArray,List.map_cons,List.map_nil]);first|done|rfl) ?_;refine(slices_Values_int_int.calls_own _ _ _ _).mono ?_;rintro e w15 ⟨gb333,hg,rfl,hbox,hb⟩;refine⟨_,rfl,?_⟩;replace HO329:=rb HO329 hb;have BK333:=m0 hbox;have GE333:=gw w hg;replace HB:=sb HB hb;clear hb hbox hg)|(go_at_call 35;(with_reducible refine(L_sorted_ints.calls gb333 A0 c0 l0 t334 _ ?side1 ?side2 ?side3 A8.out).mono ?_);(case side1=>exact(bk BK333.out));(case side2=>exact cb HR0 HB);(case side3=>exact HC0.out);rintro e w16 ⟨v335,rfl,ho0,hb⟩;replace HO329:=rb HO329 hb;have HO336:=m0 (Kd.R_lower ho0 (below_size bz));replace BK333:=bb BK333 hb;replace HB:=sb HB hb;(try clear hb);(try clear ho0);obtain⟨Ao17,co17,eo17⟩:=Kd.R_slice HO336.out;subst eo17;have p337:0≤((ji9):Int):=od;have q337:(ji9)<(t334.length:Int):=od;obtain⟨ad337,e337,hx337_0⟩:=Kd.at_int (Kd.R_reads' HO336.out).2.2 (ji9) p337 q337;cases e337;replace p337:=eq_true p337;replace q337:=eq_true q337))
     go_ret2
     exact⟨by first|rfl|(simp[errW_none,errW_some]<;>rfl)|(simp only[← hji9];first|rfl|(simp[errW_none,errW_some]<;>rfl))|(simp[*,errW_none,errW_some]<;>rfl),by repeat(first|(with_reducible first|exact HB.out|apply below_alloc|apply pw_below_drewN|apply below_drew1|refine below_set ?_ GE333.out)|exact HB.out)⟩
    ·rw [if_neg c11]at H;exact absurd H (by simp)
   ·rw [if_neg c10]at H;exact absurd H (by simp)
  ·rw [if_neg c7]at H;have c7b0:=beq_eq_false_iff_ne.mpr c7;have c7b1:=bne_iff_ne.mpr c7;simp only[Option.some.injEq,Prod.mk.injEq]at H;obtain⟨rfl,rfl⟩:=H;go_enter Try.func12,Try.ntmps12
   go_wp2_with (first|((with_reducible refine gc 22 rfl ?_);refine goesL_ (some 10) rfl rfl Try.func22 (by kernel_rfl) rfl #[.bool (decide ((l0.length:Int)>0)),.int .i64 10] rfl (by(try simp only[List.map_toArray,List.map_cons,List.map_nil]);first|done|rfl|(simp only[List.length_drop,List.length_take];rfl)|(simp;first|done|exact⟨rfl,rfl⟩)) ?_;(with_reducible refine(L_unless.calls (decide ((l0.length:Int)>0)) 10 t325 _ A2.out).mono ?_);rintro e w' ⟨rfl,⟨nd,rfl⟩⟩;refine⟨_,rfl,?_⟩)|((with_reducible refine gc 22 rfl ?_);refine gl (some 14) Try.func22 #[.bool (decide ((l0.length:Int)≤15)),.int .i64 8] ?_;(with_reducible refine(L_unless.calls (decide ((l0.length:Int)≤15)) 8 t326 _ A3.out).mono ?_);rintro e w' ⟨rfl,⟨nd,rfl⟩⟩;refine⟨_,rfl,?_⟩)|((with_reducible refine ga 15 rfl ?_);refine Kd.R_lit (Kd.int .i64) _ 30 ?hg (N:=15) ?hd (xs:=([t325,t326]:List Int)) (inner:=[.int .i64 t325,.int .i64 t326]) (ok:=fun _=>True) (okp:=fun _=>True) ?hr ?hp (fun _ hk=>hk) trivial (Below.refl _ _) (Nat.le_refl _) (by simp) ?_;(case hd=>rfl);(case hg=>rfl);(case hr=>first|(go_simp;done)|(go_simp;rfl));(case hp=>exact(Reps.one (ki t325) (Reps.one (ki t326) (Reps.none _ _))));intro v328 w18 ho19 hb hg_ hnew_;clear hg_ hnew_;(first|rw[← Ny327.out]at ho19|(simp only[Int.reduceToNat]at ho19;rw[← Ny327.out]at ho19));have HO329:=m0 (Kd.R_lower ho19 (below_size bz));replace HB:=sb HB hb;clear hb ho19;obtain⟨Ao20,co20,eo20⟩:=Kd.R_slice HO329.out;subst eo20)|((with_reducible refine gc 21 rfl ?_);refine gl (some 16) Try.func21 #[.slice Ao20 y327.length co20] ?_;(with_reducible refine(L_first.calls k _ _ y327 t330 _ ?side1 ?side2 A4.out).mono ?_);(case side1=>exact bc (Kd.R_reads' HO329.out).2.2);(case side2=>exact(Kd.R_reads' HO329.out).2.1);rintro e w' ⟨rfl,⟨nd,rfl⟩⟩;refine⟨_,rfl,?_⟩)|((with_reducible refine gc 32 rfl ?_);refine gl (some 22) Try.func32 #[.slice A0 l0.length c0,.func (.func 33) #[] #[]] ?_;(with_reducible refine(L_each_int_MiddleOf_1.calls k _ _ l0  t331 t332 _ ?side1 ?side2 A6.out).mono ?_);(case side1=>repeat(first|exact(Kd.C_below HR0.out bz)|(with_reducible refine Kd.C_alloc ?_ _)|(with_reducible refine Kd.C_drewN ?_ _)|(with_reducible refine Kd.C_drew ?_)));(case side2=>exact HC0.out);rintro e w' ⟨rfl,⟨nd,rfl⟩⟩;refine⟨_,rfl,?_⟩))
   go_ret2
   exact ez
 ·rw [if_neg c5]at H;have c5b0:=beq_eq_false_iff_ne.mpr c5;have c5b1:=bne_iff_ne.mpr c5;simp only[Option.some.injEq,Prod.mk.injEq]at H;obtain⟨rfl,rfl⟩:=H;go_enter Try.func12,Try.ntmps12
  go_wp2_with (first|((with_reducible refine gc 22 rfl ?_);refine goesL_ (some 10) rfl rfl Try.func22 (by kernel_rfl) rfl #[.bool (decide ((l0.length:Int)>0)),.int .i64 10] rfl (by(try simp only[List.map_toArray,List.map_cons,List.map_nil]);first|done|rfl|(simp only[List.length_drop,List.length_take];rfl)|(simp;first|done|exact⟨rfl,rfl⟩)) ?_;(with_reducible refine(L_unless.calls (decide ((l0.length:Int)>0)) 10 t325 _ A2.out).mono ?_);rintro e w' ⟨rfl,⟨nd,rfl⟩⟩;refine⟨_,rfl,?_⟩)|((with_reducible refine gc 22 rfl ?_);refine gl (some 14) Try.func22 #[.bool (decide ((l0.length:Int)≤15)),.int .i64 8] ?_;(with_reducible refine(L_unless.calls (decide ((l0.length:Int)≤15)) 8 t326 _ A3.out).mono ?_);rintro e w' ⟨rfl,⟨nd,rfl⟩⟩;refine⟨_,rfl,?_⟩)|((with_reducible refine ga 15 rfl ?_);refine Kd.R_lit (Kd.int .i64) _ 30 ?hg (N:=15) ?hd (xs:=([t325,t326]:List Int)) (inner:=[.int .i64 t325,.int .i64 t326]) (ok:=fun _=>True) (okp:=fun _=>True) ?hr ?hp (fun _ hk=>hk) trivial (Below.refl _ _) (Nat.le_refl _) (by simp) ?_;(case hd=>rfl);(case hg=>rfl);(case hr=>first|(go_simp;done)|(go_simp;rfl));(case hp=>exact(Reps.one (ki t325) (Reps.one (ki t326) (Reps.none _ _))));intro v328 w21 ho22 hb hg_ hnew_;clear hg_ hnew_;(first|rw[← Ny327.out]at ho22|(simp only[Int.reduceToNat]at ho22;rw[← Ny327.out]at ho22));have HO329:=m0 (Kd.R_lower ho22 (below_size bz));replace HB:=sb HB hb;clear hb ho22;obtain⟨Ao23,co23,eo23⟩:=Kd.R_slice HO329.out;subst eo23)|((with_reducible refine gc 21 rfl ?_);refine gl (some 16) Try.func21 #[.slice Ao23 y327.length co23] ?_;(with_reducible refine(L_first.calls k _ _ y327 t330 _ ?side1 ?side2 A4.out).mono ?_);(case side1=>exact bc (Kd.R_reads' HO329.out).2.2);(case side2=>exact(Kd.R_reads' HO329.out).2.1);rintro e w' ⟨rfl,⟨nd,rfl⟩⟩;refine⟨_,rfl,?_⟩))
  go_ret2
  exact ez
end
end Go.Proofs.Ytggiijffaifajaa.A
