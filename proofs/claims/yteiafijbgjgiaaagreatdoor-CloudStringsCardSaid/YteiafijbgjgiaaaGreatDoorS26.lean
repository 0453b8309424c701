/-
PLAIN LAW: what the walks compute answers as the statement says (no program in sight; Ev: from some number of rounds on).
-/
import Derived.Lib.AtoiTie
import Derived.Lib.ItoaMem
import Derived.Lib.ItoaLen
import Derived.Test.YteiafijbgjgiaaaGreatDoorS25
namespace Go.Proofs.YteiafijbgjgiaaaGreatDoor.P
open Go Go.RowKit Go.Proofs.YteiafijbgjgiaaaGreatDoor.A Go.Proofs.YteiafijbgjgiaaaGreatDoorW.PrintWords Go.Proofs.YteiafijbgjgiaaaGreatDoorW.PrintLast Go.Proofs.YteiafijbgjgiaaaGreatDoorW.PrintMore
set_option linter.unusedSimpArgs false
set_option linter.unusedVariables false
def Ev {α:Type} (f:Nat→Option α) (r:α):Prop:=∃ k,∀ j,k≤j→f j=some r

theorem Ev.some {α:Type} {r:α}:Ev (fun _=>Option.some r) r:=⟨0,fun _ _=>rfl⟩
theorem Ev.bind {α β:Type} {f:Nat→Option α} {g:Nat→α→Option β} {a:α} {b:β} (h:Ev f a) (h2:Ev (fun k=>g k a) b):Ev (fun k=>(f k).bind (g k)) b:=by
 obtain⟨k,hk⟩:=h;obtain⟨m,hm⟩:=h2;exact⟨max k m,fun j hj=>by show(f j).bind (g j)=_;rw[hk j (by omega)];exact hm j (by omega)⟩
theorem Ev.succ {α:Type} {f:Nat→Option α} {r:α} (h:Ev (fun k=>f (k+1)) r):Ev f r:=by
 obtain⟨k,hk⟩:=h;exact⟨k+1,fun j hj=>by obtain⟨m,rfl⟩:∃ m,j=m+1:=⟨j-1,by omega⟩;exact hk m (by omega)⟩
theorem Ev.congr {α:Type} {f g:Nat→Option α} {r:α} (e:∀ k,f k=g k) (h:Ev f r):Ev g r:=by
 obtain⟨k,hk⟩:=h;exact⟨k,fun j hj=>by rw[← e j];exact hk j hj⟩
theorem Ev.ex {α:Type} {f:Nat→Option α} {r:α} (h:Ev f r):∃ k,f k=Option.some r:=let ⟨k,hk⟩:=h;⟨k,hk k (Nat.le_refl _)⟩
theorem Ev.of_mono {α:Type} {f:Nat→Option α} {r:α} (hm:∀ k,LeO (f k) (f (k+1))) {k:Nat} (h:f k=Option.some r):Ev f r:=by
  refine⟨k,fun j hj=>?_⟩
  induction j with
  | zero => obtain rfl:k=0:=by omega
            exact h
  | succ j ih=>
    by_cases e:k=j+1
    · subst e;exact h
    · exact hm j r (ih (by omega))
theorem up {i:Nat} (h:i<4611686018427387904):wrap64 ((i:Int)+1)=((i+1:Nat):Int):=by
 unfold wrap64;omega
theorem w64 {n:Int} (h: -9223372036854775808≤n∧n≤9223372036854775807):wrap64 n=n:=by unfold wrap64;omega
theorem rd_nat (l:List Int) (i:Nat):rd l (i:Int)=l.getD i 0:=by unfold rd;simp
theorem drop_rd {l:List Int} {i:Nat} (h:i<l.length):l.drop i=rd l (i:Int)::l.drop (i+1):=by
 rw[rd_nat,List.drop_eq_getElem_cons h]
 simp[List.getD_eq_getElem?_getD,h]
theorem drop_getD {α:Type} {l:List α} {i:Nat} (z:α) (h:i<l.length):l.drop i=l.getD i z::l.drop (i+1):=by
 rw[List.drop_eq_getElem_cons h]
 simp[List.getD_eq_getElem?_getD,h]

theorem i64_in {n:Int} (h:(Lit.int .i64 n).wf=true): -9223372036854775808≤n∧n≤9223372036854775807:=by
 simp[Lit.wf,IntKind.min,IntKind.max,IntKind.signed,IntKind.bits]at h
 omega

theorem within_eq (a b c:Int):L_within.f a b c=some (decide (b≤a∧a≤c)):=by
 unfold L_within.f
 by_cases h:b≤a<;>simp[h]
theorem Within_eq (a b c:Int):Bs_Within.f a b c=some (decide (b≤a∧a≤c)):=by
 unfold Bs_Within.f
 by_cases h:b≤a<;>simp[h]
theorem unless_eq (b:Bool) (e:Int):L_unless.f b e=some (if b=true then 0 else e):=by
 unfold L_unless.f
 cases b<;>simp
def fnz:List Int→Int
 | []=>0
 |x::r=>if x=0 then fnz r else x

theorem first_l0 (l:List Int) (hl:l.length<4611686018427387904):∀ (n i:Nat),i+n=l.length→Ev (fun k=>L_first.l0 k l (l.length:Int) (i:Int)) (fnz (l.drop i))
 |0,i,h=>by
  refine Ev.succ (f:=fun k=>L_first.l0 k l (l.length:Int) (i:Int)) ?_;have h1:¬ (i:Int)<(l.length:Int):=by omega
  simp only[L_first.l0,h1,if_false];rw[show l.drop i=[]from List.drop_eq_nil_of_le (by omega)];exact Ev.some
 |n+1,i,h=>by
  refine Ev.succ (f:=fun k=>L_first.l0 k l (l.length:Int) (i:Int)) ?_;have h1:(i:Int)<(l.length:Int):=by omega
  have h2:(0:Int)≤(i:Int):=by omega
  simp only[L_first.l0,h1,h2,if_true,up (show i<4611686018427387904 by omega)];rw[drop_rd (show i<l.length by omega)];unfold fnz
  by_cases e:rd l (i:Int)=0
  ·simp only[e,if_true];exact first_l0 l hl n (i+1) (by omega)
  ·simp only[e,if_false];exact Ev.some
theorem first_ev (l:List Int) (hl:l.length<4611686018427387904):Ev (fun k=>L_first.f k l) (fnz l):=first_l0 l hl l.length 0 (by omega)

theorem CopyInts_eq (l:List Int) (h:l.length<4611686018427):Bs_CopyInts.f l=some l:=by
 unfold Bs_CopyInts.f;simp only[Option.bind_some,List.length_nil,List.nil_append];rw[if_pos (by omega)]
theorem few_eq (l:List Int):Lw_few.f l=some (decide (l.length≤26)):=by
 unfold Lw_few.f;congr 2;apply propext;omega
def chk {α:Type} (p:α→Int):List α→Nat→Int×Int
 | [],_=>(0,0)
 |x::r,i=>if p x=0 then chk p r (i+1)else((i:Int),p x)
theorem chk_all {α:Type} {p:α→Int}:∀ {l:List α} {i:Nat},(chk p l i).2=0→∀ x∈l,p x=0
 | [],i,_=>by simp
 | y::r,i,h=>by
  unfold chk at h
  split at h<;>rename_i e
  ·intro x hx
   rcases List.mem_cons.mp hx with rfl|hx
   ·exact e
   ·exact chk_all h x hx
  ·exact absurd h e
theorem chk_loop {α:Type} (z:α) (p:α→Int) (l:List α) (hl:l.length<4611686018427387904) (F:Nat→Int→Option (Int×Int))
  (h0:∀ k i,¬ i<(l.length:Int)→F (k+1) i=some (0,0))
  (h1:∀ k (i:Nat),i<l.length→F (k+1) (i:Int)=if p (l.getD i z)=0 then F k (wrap64 ((i:Int)+1))else some ((i:Int),p (l.getD i z))):
  ∀ (n i:Nat),i+n=l.length→Ev (fun k=>F k (i:Int)) (chk p (l.drop i) i)
 |0,i,h=>by
  refine Ev.succ (f:=fun k=>F k (i:Int)) ?_;rw[show l.drop i=[]from List.drop_eq_nil_of_le (by omega)];exact Ev.congr (fun k=>(h0 k i (by omega)).symm) Ev.some
 |n+1,i,h=>by
  refine Ev.succ (f:=fun k=>F k (i:Int)) ?_;refine Ev.congr (fun k=>(h1 k i (by omega)).symm) ?_;rw[drop_getD z (show i<l.length by omega)];unfold chk
  by_cases e:p (l.getD i z)=0
  ·simp only[e,if_true,up (show i<4611686018427387904 by omega)];exact chk_loop z p l hl F h0 h1 n (i+1) (by omega)
  ·simp only[e,if_false];exact Ev.some
theorem isSignal_eq (a:Int):L_isSignal.f a=some (decide (0≤a∧a≤10000)):=by
 unfold L_isSignal.f;rw[within_eq];rfl
def sE (x:Int):Int:=if 0≤x∧x≤10000 then 0 else 2
def pE (l:List Int):Int×Int:=if l.length=0 then(0,10)else if 24<l.length then(0,8)else chk sE l 0
theorem CheckProfile_1_eq (a:Int):L_CheckProfile_1.f a=some (sE a):=by
 unfold L_CheckProfile_1.f sE;simp only[isSignal_eq,unless_eq,Option.bind_some,decide_eq_true_eq]
theorem each_profile_ev (l:List Int) (hl:l.length<4611686018427387904):Ev (fun k=>L_each_int_CheckProfile_1.f k l) (chk sE l 0):=by
 refine chk_loop 0 sE l hl (fun k i=>L_each_int_CheckProfile_1.l0 k l (l.length:Int) i) (fun k i h=>?_) (fun k i h=>?_) l.length 0 (by omega)
 ·simp only[L_each_int_CheckProfile_1.l0,h,if_false]
 ·simp only[L_each_int_CheckProfile_1.l0,show(i:Int)<(l.length:Int) by omega,show(0:Int)≤(i:Int) by omega,if_true,CheckProfile_1_eq,Option.bind_some,rd_nat]
theorem CheckProfile_ev (l:List Int) (hl:l.length<4611686018427387904):Ev (fun k=>L_CheckProfile.f k l) (pE l):=by
 unfold L_CheckProfile.f;simp only[unless_eq,Option.bind_some];refine Ev.bind (first_ev _ (by simp)) ?_;unfold pE
 by_cases h1:l.length=0
 ·simp only[h1,show ¬ ((0:Nat):Int)>0 by omega,decide_false,fnz];exact Ev.some
 ·by_cases h2:24<l.length
  ·simp only[h1,h2,show(l.length:Int)>0 by omega,show ¬ (l.length:Int)≤24 by omega,decide_false,decide_true,fnz,if_true,if_false];exact Ev.some
  ·simp only[h1,h2,show(l.length:Int)>0 by omega,show(l.length:Int)≤24 by omega,decide_true,fnz,if_true,if_false];exact Ev.bind (each_profile_ev l hl) Ev.some
theorem RefCheckProfile_ev (l:List Int) (hl:l.length<4611686018427387904):Ev (fun k=>Rf_CheckProfile.f k l) (pE l):=by
 unfold Rf_CheckProfile.f pE
 by_cases h1:l.length=0
 ·simp only[h1];exact Ev.some
 ·by_cases h2:24<l.length
  ·simp only[h1,h2,show ¬ (l.length:Int)=0 by omega,show(l.length:Int)>24 by omega,if_true,if_false];exact Ev.some
  ·simp only[h1,h2,show ¬ (l.length:Int)=0 by omega,show ¬ (l.length:Int)>24 by omega,if_false];refine chk_loop 0 sE l hl (fun k i=>Rf_CheckProfile.l0 k l i) (fun k i h=>?_) (fun k i h=>?_) l.length 0 (by omega)
   ·simp only[Rf_CheckProfile.l0,h,if_false]
   ·simp only[Rf_CheckProfile.l0,show(i:Int)<(l.length:Int) by omega,show(0:Int)≤(i:Int) by omega,if_true,Within_eq,Option.bind_some,rd_nat,sE,decide_eq_true_eq]
    split<;>simp
theorem pE_ok {l:List Int} (h:(pE l).2=0):0<l.length∧l.length≤24∧∀ x∈l,0≤x∧x≤10000:=by
 unfold pE at h
 split at h
 ·exact absurd h (by simp)
 split at h
 ·exact absurd h (by simp)
 refine⟨by omega,by omega,fun x hx=>?_⟩;have:=chk_all h x hx;unfold sE at this
 split at this<;>omega
theorem isHeight_eq (a:Int):L_isHeight.f a=some (decide (0≤a∧a≤20000)):=by
 unfold L_isHeight.f;rw[within_eq];rfl
theorem ProfileErr_ev (l:List Int) (hl:l.length<4611686018427387904):Ev (fun k=>Rf_ProfileErr.f k l) (pE l).2:=by
 unfold Rf_ProfileErr.f;exact Ev.bind (RefCheckProfile_ev l hl) Ev.some
theorem chk_loopE {α:Type} (z:α) (p:α→Int) (g:Nat→α→Option Int) (hg:∀ x,Ev (fun k=>g k x) (p x)) (l:List α) (hl:l.length<4611686018427387904) (F:Nat→Int→Option (Int×Int))
  (h0:∀ k i,¬ i<(l.length:Int)→F (k+1) i=some (0,0))
  (h1:∀ k (i:Nat),i<l.length→F (k+1) (i:Int)=(g k (l.getD i z)).bind fun e=>if e=0 then F k (wrap64 ((i:Int)+1))else some ((i:Int),e)):
  ∀ (n i:Nat),i+n=l.length→Ev (fun k=>F k (i:Int)) (chk p (l.drop i) i)
 |0,i,h=>by
  refine Ev.succ ?_;rw[show l.drop i=[]from List.drop_eq_nil_of_le (by omega)];exact Ev.congr (fun k=>(h0 k i (by omega)).symm) Ev.some
 |n+1,i,h=>by
  refine Ev.succ ?_;refine Ev.congr (fun k=>(h1 k i (by omega)).symm) ?_;rw[drop_getD z (show i<l.length by omega)];refine Ev.bind (hg _) ?_;unfold chk
  by_cases e:p (l.getD i z)=0
  ·simp only[e,if_true,up (show i<4611686018427387904 by omega)];exact chk_loopE z p g hg l hl F h0 h1 n (i+1) (by omega)
  ·simp only[e,if_false];exact Ev.some
theorem rd112_drop {l:List S64} {i:Nat} (h:i<l.length):l.drop i=rd_T64 l (i:Int)::l.drop (i+1):=by
 unfold rd_T64;exact drop_getD z64 h
theorem rd112_getD (l:List S64) (i:Nat):rd_T64 l (i:Int)=l.getD i z64:=by unfold rd_T64;simp
def lE (y:S64):Int:=if(0≤y.f0∧y.f0≤20000)∧(0≤y.f1∧y.f1≤20000)∧(0≤y.f2∧y.f2≤8)then(if y.f0<y.f1 then 0 else 9)else 2
def laE (l:List S64):Int×Int:=if 10<l.length then(0,8)else chk lE l 0
theorem CheckLayers_1_ev (y:S64):Ev (fun k=>L_CheckLayers_1.f k y.f0 y.f1 y.f2) (lE y):=by
 unfold L_CheckLayers_1.f lE;simp only[isHeight_eq,within_eq,Option.bind_some,unless_eq,decide_eq_true_eq]
 by_cases h1:0≤y.f0∧y.f0≤20000
 ·by_cases h2:0≤y.f1∧y.f1≤20000
  ·by_cases h3:0≤y.f2∧y.f2≤8
   ·by_cases h4:y.f0<y.f1
    ·simp only[h1,h2,h3,h4,and_self,if_true];exact Ev.bind (first_ev _ (by simp)) Ev.some
    ·simp only[h1,h2,h3,h4,and_self,if_true,if_false];exact Ev.bind (first_ev _ (by simp)) Ev.some
   ·simp only[h1,h2,h3,and_self,and_false,if_true,if_false];exact Ev.bind (first_ev _ (by simp)) Ev.some
  ·simp only[h1,h2,and_self,and_false,false_and,if_true,if_false,Bool.false_eq_true];exact Ev.bind (first_ev _ (by simp)) Ev.some
 ·simp only[h1,false_and,if_false,Bool.false_eq_true];exact Ev.bind (first_ev _ (by simp)) Ev.some
theorem CheckLayers_ev (l:List S64) (hl:l.length<4611686018427387904):Ev (fun k=>L_CheckLayers.f k l) (laE l):=by
 unfold L_CheckLayers.f laE
 by_cases h2:10<l.length
 ·simp only[h2,show(l.length:Int)>10 by omega,if_true];exact Ev.some
 ·simp only[h2,show ¬ (l.length:Int)>10 by omega,if_false];refine Ev.bind (a:=chk lE l 0) ?_ Ev.some;refine chk_loopE z64 lE (fun k y=>L_CheckLayers_1.f k y.f0 y.f1 y.f2) CheckLayers_1_ev l hl (fun k i=>api_CloudLayer_CheckLayers_1.l0 k l (l.length:Int) i) (fun k i h=>?_) (fun k i h=>?_) l.length 0 (by omega)
  ·simp only[api_CloudLayer_CheckLayers_1.l0,h,if_false]
  ·simp only[api_CloudLayer_CheckLayers_1.l0,show(i:Int)<(l.length:Int) by omega,show(0:Int)≤(i:Int) by omega,if_true,rd112_getD]
theorem RefCheckLayers_ev (l:List S64) (hl:l.length<4611686018427387904):Ev (fun k=>Rf_CheckLayers.f k l) (laE l):=by
  unfold Rf_CheckLayers.f laE
  by_cases h2:10<l.length
  · simp only[h2,show(l.length:Int)>10 by omega,if_true];exact Ev.some
  · simp only [h2,show ¬ (l.length:Int)>10 by omega,if_false];have key:∀ (n i:Nat),i+n=l.length→Ev (fun k=>Rf_CheckLayers.l0 k l (i:Int)) (chk lE (l.drop i) i):=by
      intro n
      induction n with
      | zero=>
        intro i h;refine Ev.succ ?_;simp only[Rf_CheckLayers.l0,show ¬ (i:Int)<(l.length:Int) by omega,if_false];rw[show l.drop i=[]from List.drop_eq_nil_of_le (by omega)];exact Ev.some
      | succ n ih=>
        intro i h;refine Ev.succ ?_;have ih:=ih (i+1) (by omega);rw[rd112_drop (show i<l.length by omega)];simp only[Rf_CheckLayers.l0,show(i:Int)<(l.length:Int) by omega,show(0:Int)≤(i:Int) by omega,if_true,Within_eq,Option.bind_some,decide_eq_true_eq];have hj:∀ b:Bool,Ev (fun k=>Rf_CheckLayers.j1 k l (i:Int) b) (if b=true then((i:Int),2)else if(rd_T64 l (i:Int)).f0<(rd_T64 l (i:Int)).f1 then chk lE (l.drop (i+1)) (i+1)else((i:Int),9)):=by
          intro b;refine Ev.succ ?_
          cases b with
          |true=>simp only[Rf_CheckLayers.j1,if_true];exact Ev.some
          | false=>
            simp only[Rf_CheckLayers.j1,Bool.false_eq_true,if_false,show(i:Int)<(l.length:Int) by omega,show(0:Int)≤(i:Int) by omega,if_true,up (show i<4611686018427387904 by omega)]
            by_cases h3:(rd_T64 l (i:Int)).f0<(rd_T64 l (i:Int)).f1
            · simp only[h3,show ¬ (rd_T64 l (i:Int)).f0≥(rd_T64 l (i:Int)).f1 by omega,if_true,if_false];exact ih
            · simp only[h3,show(rd_T64 l (i:Int)).f0≥(rd_T64 l (i:Int)).f1 by omega,if_true,if_false];exact Ev.some
        generalize rd_T64 l (i:Int)=y at hj ⊢;have ht:=hj true;simp only[if_true]at ht;unfold chk lE
        by_cases h5:0≤y.f0∧y.f0≤20000
        · by_cases h6:0≤y.f1∧y.f1≤20000
          · by_cases h7:0≤y.f2∧y.f2≤8
            · have hf:=hj false;simp only[h5,h6,h7,and_self,if_true,decide_true,Bool.not_true,Bool.false_eq_true,if_false]at hf ⊢
              by_cases h3:y.f0<y.f1
              · rw[if_pos h3]at hf;simp only[h3,if_true];exact hf
              · rw[if_neg h3]at hf;simp only[h3,if_false,show ¬ (9:Int)=0 by omega];exact hf
            · simp only[h5,h6,h7,and_self,and_false,if_true,if_false,decide_false,Bool.not_false,show ¬ (2:Int)=0 by omega];exact ht
          · simp only[h5,h6,and_self,and_false,false_and,if_true,if_false,show ¬ (2:Int)=0 by omega];exact ht
        · simp only[h5,false_and,if_false,show ¬ (2:Int)=0 by omega];exact ht
    exact key l.length 0 (by omega)
theorem laE_ok {l:List S64} (h:(laE l).2=0):l.length≤10∧∀ y∈l,0≤y.f2∧y.f2≤8:=by
 unfold laE at h
 split at h
 ·exact absurd h (by simp)
 refine⟨by omega,fun y hy=>?_⟩;have:=chk_all h y hy;unfold lE at this
 split at this
 ·rename_i hh;exact hh.2.2
 ·exact absurd this (by decide)

theorem CopyLayers_eq (l:List S64) (h:l.length<20000000):Rf_CopyLayers.f l=some l:=by
 unfold Rf_CopyLayers.f;simp only[Option.bind_some,List.length_nil,List.nil_append];rw[if_pos (by omega)]
theorem Ints_l0 (x:List Int) (hl:x.length<4611686018427387904):∀ (n i:Nat),i+n=x.length→Ev (fun k=>Bs_Ints.l0 k x x (i:Int)) true
 |0,i,h=>by
  refine Ev.succ ?_;simp only[Bs_Ints.l0,show ¬ (i:Int)<(x.length:Int) by omega,if_false];exact Ev.some
 |n+1,i,h=>by
  refine Ev.succ ?_;simp only[Bs_Ints.l0,show(i:Int)<(x.length:Int) by omega,show(0:Int)≤(i:Int) by omega,if_true,up (show i<4611686018427387904 by omega)];exact Ints_l0 x hl n (i+1) (by omega)
theorem Ints_ev (x:List Int) (hl:x.length<4611686018427387904):Ev (fun k=>Bs_Ints.f k x x) true:=by
 unfold Bs_Ints.f;simp only[if_true];exact Ints_l0 x hl x.length 0 (by omega)
theorem awake_ev:Ev (fun k=>Lw_awake.f k) true:=
 Ev.of_mono (k:=1500) (fun k=>Lw_awake.mono k) (by kernel_rfl)
theorem dec_small {u:Nat} (h:u<10):Lib.decDigits u=[UInt8.ofNat (48+u)]:=by rw[Lib.decDigits,dif_pos h]
theorem dec_big {u:Nat} (h:¬ u<10):Lib.decDigits u=Lib.decDigits (u / 10)++ [UInt8.ofNat (48+u % 10)]:=by rw[Lib.decDigits,dif_neg h]
theorem digit_of {d:Nat} (h:d<10):Lib.digitVal (UInt8.ofNat (48+d))=some d:=by
 unfold Lib.digitVal;have e:(UInt8.ofNat (48+d)).toNat=48+d:=by simp;omega
 rw[e,if_pos (by omega)]
 congr 1;omega
theorem decFrom_append:∀ (a b:List UInt8) (acc n:Nat),Lib.decFrom acc a=some n→Lib.decFrom acc (a++b)=Lib.decFrom n b
  | [],b,acc,n,h=>by simp only[Lib.decFrom,Option.some.injEq]at h;subst h;rfl
  | c::r,b,acc,n,h=>by
    simp only[List.cons_append,Lib.decFrom]at h ⊢
    cases e:Lib.digitVal c with
    |none=>rw[e]at h;cases h
    |some d=>rw[e]at h;exact decFrom_append r b _ _ h
theorem decFrom_dec (u:Nat):Lib.decFrom 0 (Lib.decDigits u)=some u:=by
 induction u using Nat.strongRecOn with
 | ind u ih=>
  by_cases h:u<10
  ·rw [dec_small h];simp only[Lib.decFrom,digit_of h];simp
  ·rw [dec_big h,decFrom_append _ _ _ _ (ih (u / 10) (by omega))];simp only[Lib.decFrom,digit_of (show u % 10<10 by omega)]
   congr 1;omega
theorem dec_ne (u:Nat):Lib.decDigits u≠ []:=by
 by_cases h:u<10
 ·rw [dec_small h];simp
 ·rw [dec_big h];simp
theorem dec_head (u:Nat) (h0:0<u):∃ d r,Lib.decDigits u=UInt8.ofNat (48+d)::r∧0<d∧d<10:=by
 induction u using Nat.strongRecOn with
 |ind u ih=>
  by_cases h:u<10
  ·exact ⟨u,[],dec_small h,h0,h⟩
  ·obtain ⟨d,r,e,h1,h2⟩:=ih (u / 10) (by omega) (by omega);exact⟨d,r++ [UInt8.ofNat (48+u % 10)],by rw[dec_big h,e];rfl,h1,h2⟩
theorem dec_zero:Lib.decDigits 0=[48]:=by rw[dec_small (by omega)];rfl
theorem byte_of {b:UInt8} {d:Nat} (h:Lib.digitVal b=some d):b=UInt8.ofNat (48+d)∧d<10:=by
 obtain⟨h1,h2,h3⟩:=Lib.digitVal_eq h;refine⟨?_,by omega⟩
 apply UInt8.toNat_inj.mp
 rw[show 48+d=b.toNat by omega]
 simp
theorem dec_from:∀ (r:List UInt8) (acc n:Nat),0<acc→Lib.decFrom acc r=some n→Lib.decDigits n=Lib.decDigits acc++r
  | [],acc,n,_,h=>by simp only[Lib.decFrom,Option.some.injEq]at h;subst h;simp
  | b ::r,acc,n,h0,h=>by
    simp only[Lib.decFrom]at h
    cases e:Lib.digitVal b with
    |none=>rw[e]at h;cases h
    | some d=>
      rw[e]at h;obtain⟨e1,e2⟩:=byte_of e;have:=dec_from r (acc*10+d) n (by omega) h;rw[this,dec_big (show ¬ acc*10+d<10 by omega),show(acc*10+d) / 10=acc by omega,show(acc*10+d) % 10=d by omega,e1]
      simp
theorem dec_of {b:UInt8} {r:List UInt8} {n:Nat} (h:Lib.decFrom 0 (b::r)=some n) (hb:b≠48∨r=[]):Lib.decDigits n=b::r:=by
  simp only[Lib.decFrom]at h
  cases e:Lib.digitVal b with
  |none=>rw[e]at h;cases h
  | some d=>
    rw[e]at h;obtain⟨e1,e2⟩:=byte_of e;have h':Lib.decFrom d r=some n:=by simpa using h
    by_cases hd:0<d
    · rw[dec_from r d n hd h',dec_small e2, ←e1];rfl
    · have:d=0:=by omega
      subst this
      rcases hb with hb|rfl
      · exact absurd e1 hb
      · simp only[Lib.decFrom,Option.some.injEq]at h';subst h';rw[dec_zero,e1];rfl
theorem dec_pos {b:UInt8} {r:List UInt8} {n:Nat} (h:Lib.decFrom 0 (b::r)=some n) (hb:b≠48):0<n:=by
 refine Nat.pos_of_ne_zero (fun e=>?_);subst e;have:=dec_of h (.inl hb);rw[dec_zero]at this
 injection this with t _
 exact hb t.symm
def mag (w:List UInt8):List UInt8:=if w.head? =some 45 then w.tail else w
def accP (w:List UInt8) (d:Nat):Option Int:=
 match Lib.atoiAll w with
 | .ok v=>if Lib.itoa v=w∧(mag w).length≤d then some v else none
 |_=>none
def accR (w:List UInt8) (d:Nat):Option Int:=
 if mag w=[]∨d<(mag w).length∨(mag w).head? =some 48∧1<w.length then none
 else(Lib.decFrom 0 (mag w)).map fun n:Nat=>if w.head? =some 45 then -(n:Int)else(n:Int)
theorem head_ne45 {d:Nat} (h:d<10):UInt8.ofNat (48+d)≠45:=by
 intro e;have:=congrArg UInt8.toNat e
 simp at this
 omega
theorem head_ne48 {d:Nat} (h0:0<d) (h:d<10):UInt8.ofNat (48+d)≠48:=by
 intro e;have:=congrArg UInt8.toNat e
 simp at this
 omega
theorem dec_head' (u:Nat):∃ d r,Lib.decDigits u=UInt8.ofNat (48+d)::r∧d<10∧(d=0→r=[]):=by
 by_cases h:0<u
 ·obtain ⟨d,r,e,h1,h2⟩:=dec_head u h;exact⟨d,r,e,h2,by omega⟩
 ·have:u=0:=by omega
  subst this;exact⟨0,[],by rw[dec_zero];rfl,by omega,fun _=>rfl⟩
theorem accR_itoa {v:Int} {d:Nat} (h:(mag (Lib.itoa v)).length≤d):accR (Lib.itoa v) d=some v:=by
 unfold accR;unfold Lib.itoa at h ⊢
 by_cases hv:v<0
 ·rw [if_pos hv]at h ⊢;obtain⟨x,r,e,h1,h2⟩:=dec_head v.natAbs (by omega);have hm:mag (45::Lib.decDigits v.natAbs)=Lib.decDigits v.natAbs:=by unfold mag;simp
  rw[hm]at h ⊢;rw[if_neg,decFrom_dec]
  ·simp;omega
  ·rintro (h3|h3|⟨h3,_⟩)
   ·exact dec_ne _ h3
   ·omega
   ·rw [e]at h3;simp only[List.head?_cons,Option.some.injEq]at h3;exact head_ne48 h1 h2 h3
 ·rw [if_neg hv]at h ⊢;obtain⟨x,r,e,h1,h2⟩:=dec_head' v.toNat;have h45:(Lib.decDigits v.toNat).head? ≠some 45:=by rw[e];simp only[List.head?_cons,ne_eq,Option.some.injEq];exact head_ne45 h1
  have hm:mag (Lib.decDigits v.toNat)=Lib.decDigits v.toNat:=by unfold mag;rw[if_neg h45]
  rw[hm]at h ⊢;rw[if_neg,decFrom_dec,Option.map_some,if_neg h45]
  ·congr 1;omega
  ·rintro (h3|h3|⟨h3,h4⟩)
   ·exact dec_ne _ h3
   ·omega
   ·rw [e]at h3 h4;simp only[List.head?_cons,Option.some.injEq]at h3;have:x=0:=by
     refine Classical.byContradiction fun hx=>head_ne48 (by omega) h1 h3
    rw[h2 this]at h4;simp at h4
theorem accR_some {w:List UInt8} {d:Nat} (hd:d≤17) {v:Int} (h:accR w d=some v):Lib.atoiAll w= .ok v∧Lib.itoa v=w∧(mag w).length≤d:=by
  unfold accR at h
  split at h
  · cases h
  · rename_i hn
    simp only[not_or,not_and]at hn;obtain⟨h1,h2,h3⟩:=hn
    cases hf:Lib.decFrom 0 (mag w)with
    |none=>rw[hf]at h;cases h
    | some n =>
      rw[hf,Option.map_some,Option.some.injEq]at h
      cases w with
      |nil=>exact absurd (by simp[mag]) h1
      | cons b r=>
        by_cases hb:b=45
        · subst hb;have hm:mag (45::r)=r:=by unfold mag;simp
          rw[hm]at h1 h2 h3 hf;rw[if_pos (by simp)]at h
          cases r with
          |nil=>exact absurd rfl h1
          | cons c s=>
            have hc:c≠48:=by
              intro e;subst e;exact h3 (by simp) (by simp)
            have hp:=dec_pos hf hc;have hi:Lib.itoa v=45::c::s:=by
              rw[← h,Lib.itoa_neg n hp,dec_of hf (.inl hc)]
            refine⟨?_,hi,by rw[hm];omega⟩;rw[Lib.atoiAll_short _ (by simp at h2 ⊢;omega)]
            show Lib.NumEnd.ofOption ((Lib.decNat (c::s)).map fun m:Nat=> -(m:Int))=_
            unfold Lib.decNat;simp only[List.isEmpty_cons,Bool.false_eq_true,if_false,hf,Option.map_some,Lib.NumEnd.ofOption,h]
        · have hm:mag (b::r)=b::r:=by unfold mag;rw[if_neg (by simpa using hb)]
          rw [hm]at h1 h2 h3 hf;rw[if_neg (by simpa using hb)]at h;have hc:b≠48∨r=[]:=by
            by_cases e:b=48
            · subst e;refine .inr ?_;have:=h3 (by simp)
              simp at this
              exact this
            · exact .inl e
          have hi:Lib.itoa v=b::r:=by rw[← h,Lib.itoa_nonneg,dec_of hf hc]
          refine⟨?_,hi,by rw[hm];omega⟩;rw[Lib.atoiAll_short _ (by simp at h2 ⊢;omega)];have h43:b≠43:=by
            intro e;subst e;simp only[Lib.decFrom]at hf;exact absurd hf (by simp[Lib.digitVal])
          unfold Lib.atoi;simp only[show (b==45)=false from beq_eq_false_iff_ne.mpr hb,show(b==43)=false from beq_eq_false_iff_ne.mpr h43,Bool.false_eq_true,if_false];unfold Lib.decNat;simp only[List.isEmpty_cons,Bool.false_eq_true,if_false,hf,Option.map_some,Lib.NumEnd.ofOption,h]
theorem accP_eq (w:List UInt8) (d:Nat) (hd:d≤17):accP w d=accR w d:=by
 cases hR:accR w d with
 |some v=>
  obtain⟨h1,h2,h3⟩:=accR_some hd hR;unfold accP;rw[h1];simp only;rw[if_pos ⟨h2,h3⟩]
 | none=>
  unfold accP
  cases hA:Lib.atoiAll w
  case ok v=>
   simp only;rw[if_neg];rintro⟨h2,h3⟩;rw[← h2]at h3 hR;rw[accR_itoa h3]at hR
   cases hR
  all_goals rfl
def Bs (l:List UInt8):ByteArray:=⟨l.toArray⟩
theorem Bs_size (l:List UInt8):(Bs l).size=l.length:=by show l.toArray.size=l.length;simp
theorem Bs_data (a:ByteArray):Bs a.data.toList=a:=by unfold Bs;simp
theorem Bs_append (a b:List UInt8):Bs a++Bs b=Bs (a++b):=by
 apply ByteArray.ext
 rw[ByteArray.data_append]
 show a.toArray++b.toArray=(a++b).toArray
 simp
theorem bt_Bs {l:List UInt8} {i:Nat} (h:i<l.length):bt (Bs l) (i:Int)=((l[i]).toNat:Int):=by
 unfold bt;rw[dif_pos (by rw[Bs_size];simpa using h)];simp only[Int.toNat_natCast]
 congr 1
theorem Bs_extract (l:List UInt8) (i j:Nat):(Bs l).extract i j=Bs ((l.drop i).take (j-i)):=by
 apply ByteArray.ext
 rw[ByteArray.data_extract]
 apply Array.ext'
 show(l.toArray.extract i j).toList=_
 simp[Bs,List.extract_eq_take_drop]
def cutG (c:UInt8) (cur r:List UInt8):List (List UInt8):=(cur++(cutB c r).headD [])::(cutB c r).tail
theorem cutG_eq {c:UInt8} {cur r:List UInt8}:cutG c cur (c::r)=cur::cutB c r:=by simp[cutG,cutB]
theorem cutG_ne {c b:UInt8} {cur r:List UInt8} (h:b≠c):cutG c cur (b::r)=cutG c (cur++ [b]) r:=by simp[cutG,cutB,h]
theorem cutG_nil {c:UInt8} {r:List UInt8}:cutG c [] r=cutB c r:=by
  unfold cutG
  cases e:cutB c r with
  |nil=>exact absurd e (cutB_ne c r)
  |cons x s=>simp
theorem Cut_l0 (c:UInt8) (l:List UInt8) (hl:l.length≤1000000):∀ (n i f:Nat) (o:List ByteArray),i+n=l.length→f≤i→o.length≤i→Ev (fun k=>Bs_Cut.l0 k (Bs l) (c.toNat:Int) o (f:Int) (i:Int)) (o++(cutG c ((l.drop f).take (i-f)) (l.drop i)).map Bs)
 |0,i,f,o,h,hf,ho=>by
  refine Ev.succ ?_;have hi:i=l.length:=by omega
  simp only[Bs_Cut.l0,Bs_size,show ¬ (i:Int)<(l.length:Int) by omega,if_false,show(0:Int)≤(f:Int) by omega,show(f:Int)≤(l.length:Int) by omega,if_true,show o.length<8796093022208 by omega];rw[Bs_extract,List.drop_eq_nil_of_le (show l.length≤i by omega),hi,Int.toNat_natCast];simp only[cutG,cutB,List.headD,List.append_nil,List.tail,List.map_cons,List.map_nil];exact Ev.some
 | n+1,i,f,o,h,hf,ho=>by
  refine Ev.succ ?_;have hi:i<l.length:=by omega
  have hd:l.drop i=l[i]::l.drop (i+1):=List.drop_eq_getElem_cons hi;have hc:(l.drop f).take (i+1-f)=(l.drop f).take (i-f)++ [l[i]]:=by
   rw[show i+1-f=(i-f)+1 by omega,List.take_succ_eq_append_getElem (by rw[List.length_drop];omega),List.getElem_drop]
   congr 2
   simp[show f+(i-f)=i by omega]
  simp only[Bs_Cut.l0,Bs_size,show(i:Int)<(l.length:Int) by omega,show(0:Int)≤(i:Int) by omega,if_true,bt_Bs hi,up (show i<4611686018427387904 by omega),show(0:Int)≤(f:Int) by omega,show(f:Int)≤(i:Int) by omega,show(i:Int)≤(l.length:Int) by omega,show o.length<8796093022208 by omega]
  by_cases e:l[i]=c
  ·simp only[show ((l[i]).toNat:Int)=(c.toNat:Int)from by rw[e],if_true];have ih:=Cut_l0 c l hl n (i+1) (i+1) (o++ [(Bs l).extract f i]) (by omega) (Nat.le_refl _) (by simp;omega);rw[Nat.sub_self,List.take_zero,cutG_nil]at ih;rw[hd,e,cutG_eq,List.map_cons];rw[Bs_extract]at ih;rw[List.append_assoc]at ih
   simpa [Bs_extract]using ih
  ·simp only[show ¬ (((l[i]).toNat:Int)=(c.toNat:Int))from fun h=>e (UInt8.toNat_inj.mp (by omega)),if_false];have ih:=Cut_l0 c l hl n (i+1) f o (by omega) (by omega) (by omega);rw[hc]at ih;rw[hd,cutG_ne e];exact ih
theorem Cut_ev (c:UInt8) (l:List UInt8) (hl:l.length≤1000000):Ev (fun k=>Bs_Cut.f k (Bs l) (c.toNat:Int)) ((cutB c l).map Bs):=by
 have:=Cut_l0 c l hl l.length 0 0 [] (by omega) (Nat.le_refl _) (Nat.le_refl _);simp only[Nat.sub_self,List.take_zero,List.drop_zero,cutG_nil,List.nil_append]at this;exact this
theorem Number_l0 (l:List UInt8) (hl:l.length≤30) (at_:Nat):∀ (n i acc:Nat),i+n=l.length→acc<10 ^ (i-at_)→at_≤i→i-at_+n≤5→
  Ev (fun k=>Bs_Number.l0 k (Bs l) (at_:Int) (acc:Int) (i:Int)) (match Lib.decFrom acc (l.drop i)with|some m=>(if at_=1 then -(m:Int)else(m:Int),true)|none=>(0,false))
 |0,i,acc,h,ha,hi,h5=>by
  refine Ev.succ ?_;have hb:acc<100000:=Nat.lt_of_lt_of_le ha (Nat.pow_le_pow_right (by omega) (show i-at_≤5 by omega));simp only[Bs_Number.l0,Bs_size,show ¬ (i:Int)<(l.length:Int) by omega,if_false];rw[List.drop_eq_nil_of_le (show l.length≤i by omega)];simp only[Lib.decFrom]
  by_cases e:at_=1
  ·simp only[show (at_:Int)=1 by omega,if_true,e];rw[w64 (by omega)];exact Ev.some
  ·simp only[show ¬ ((at_:Int)=1) by omega,if_false,e];exact Ev.some
 | n+1,i,acc,h,ha,hi,h5=>by
  refine Ev.succ ?_;have hil:i<l.length:=by omega
  have hb:acc<10000:=Nat.lt_of_lt_of_le ha (Nat.pow_le_pow_right (by omega) (show i-at_≤4 by omega));rw[List.drop_eq_getElem_cons hil];simp only[Bs_Number.l0,Bs_size,show(i:Int)<(l.length:Int) by omega,show(0:Int)≤(i:Int) by omega,if_true,bt_Bs hil,up (show i<4611686018427387904 by omega),Lib.decFrom]
  by_cases c1:(l[i]).toNat<48
  ·simp only[show ((l[i]).toNat:Int)<48 by omega,if_true];rw[show Lib.digitVal l[i]=none by unfold Lib.digitVal;rw[if_neg (by omega)]];exact Ev.some
  by_cases c2:57<(l[i]).toNat
  ·simp only[show ¬ ((l[i]).toNat:Int)<48 by omega,show((l[i]).toNat:Int)>57 by omega,if_true,if_false];rw[show Lib.digitVal l[i]=none by unfold Lib.digitVal;rw[if_neg (by omega)]];exact Ev.some
  simp only[show ¬ ((l[i]).toNat:Int)<48 by omega,show ¬ ((l[i]).toNat:Int)>57 by omega,if_false];rw[show Lib.digitVal l[i]=some ((l[i]).toNat-48) by unfold Lib.digitVal;rw[if_pos (by omega)]];simp only;have ih:=Number_l0 l hl at_ n (i+1) (acc*10+((l[i]).toNat-48)) (by omega) (by
   rw[show i+1-at_=(i-at_)+1 by omega,Nat.pow_succ];omega) (by omega) (by omega)
  rw[show wrap64 (wrap64 (10*(acc:Int))+(((l[i]).toNat:Int)-48) % 256)=((acc*10+((l[i]).toNat-48):Nat):Int) by
   rw[w64 (n:=10*(acc:Int)) (by omega),w64 (by omega)];omega]
  exact ih
theorem mag_len (w:List UInt8):(mag w).length≤w.length:=by unfold mag;split<;>simp
theorem Number_ev (w:List UInt8) (hw:w.length≤1000000):Ev (fun k=>Bs_Number.f k (Bs w) 5) (match accR w 5 with|some v=>(v,true)|none=>(0,false)):=by
  -- behind the sign
  have hno:∀ (a:Int),Ev (fun k=>Bs_Number.j2 k (Bs w) a true) ((0:Int),false):=by
    intro a;refine Ev.succ ?_;simp only[Bs_Number.j2,if_true];exact Ev.some
  have go :∀ (at_:Nat),at_≤w.length→mag w=w.drop at_→(at_=1↔w.head? =some 45)→at_≤1→Ev (fun k=>Bs_Number.j1 k (Bs w) 5 (at_:Int)) (match accR w 5 with|some v=>(v,true)|none=>(0,false)):=by
    intro at_ hat hm h1 h01;have hml:(mag w).length=w.length-at_:=by rw[hm,List.length_drop]
    refine Ev.succ ?_;simp only[Bs_Number.j1,Bs_size];rw[w64 (n:=(w.length:Int)-(at_:Int)) (by omega)]
    by_cases c1:w.length=at_
    · simp only[show (w.length:Int)=(at_:Int) by omega,if_true];have:accR w 5=none:=by
        unfold accR;rw[if_pos (.inl (List.length_eq_zero_iff.mp (by omega)))]
      rw[this];exact hno _
    simp only[show ¬ ((w.length:Int)=(at_:Int)) by omega,if_false]
    by_cases c2:5<(mag w).length
    · simp only[show (w.length:Int)-(at_:Int)>5 by omega,if_true];have:accR w 5=none:=by
        unfold accR;rw[if_pos (.inr (.inl c2))]
      rw[this];exact hno _
    simp only[show ¬ ((w.length:Int)-(at_:Int)>5) by omega,if_false];have hlt:at_<w.length:=by omega
    have hh:(mag w).head? =some w[at_]:=by rw[hm,List.drop_eq_getElem_cons hlt];rfl
    simp only[show (0:Int)≤(at_:Int) by omega,show(at_:Int)<(w.length:Int) by omega,if_true,bt_Bs hlt];have fin:¬ ((mag w).head? =some 48∧1<w.length)→Ev (fun k=>Bs_Number.j2 k (Bs w) (at_:Int) false) (match accR w 5 with|some v=>(v,true)|none=>(0,false)):=by
      intro h3;refine Ev.succ ?_;simp only[Bs_Number.j2,Bool.false_eq_true,if_false];have hR:accR w 5=(Lib.decFrom 0 (mag w)).map fun n:Nat=>if w.head? =some 45 then -(n:Int)else(n:Int):=by
        unfold accR;rw[if_neg];rintro(h|h|h)
        · rw[h]at hml;simp at hml;omega
        · exact c2 h
        · exact h3 h
      have:=Number_l0 w (by have:=mag_len w;omega) at_ (w.length-at_) at_ 0 (by omega) (by simp) (Nat.le_refl _) (by omega);rw[← hm]at this;rw[hR]
      cases e:Lib.decFrom 0 (mag w)with
      |none=>rw[e]at this;exact this
      | some m=>
        rw[e]at this;simp only[Option.map_some]
        by_cases h45:at_=1
        · rw[if_pos (h1.mp h45)];simp only[if_pos h45]at this;exact this
        · rw[if_neg (fun h=>h45 (h1.mpr h))];simp only[if_neg h45]at this;exact this
    by_cases c3:w[at_]=48
    · simp only[show ((w[at_]).toNat:Int)=48 by rw[c3];rfl,if_true]
      by_cases c4:1<w.length
      · rw[show decide ((w.length:Int)>1)=true from decide_eq_true (by omega)];have:accR w 5=none:=by
          unfold accR;rw[if_pos (.inr (.inr ⟨by rw[hh,c3],c4⟩))]
        rw[this];exact hno _
      · rw[show decide ((w.length:Int)>1)=false from decide_eq_false (by omega)];exact fin (fun h=>c4 h.2)
    · simp only[show ¬ (((w[at_]).toNat:Int)=48)from fun h=>c3 (UInt8.toNat_inj.mp (by have:(48:UInt8).toNat=48:=rfl;omega)),if_false];exact fin (fun h=>c3 (by have:=h.1;rw[hh]at this;exact Option.some.inj this))
  unfold Bs_Number.f;simp only[Bs_size]
  cases w with
  | nil=>
    simp only[List.length_nil,show ¬ ((0:Nat):Int)>0 by omega,if_false];refine Ev.succ ?_;simp only[Bs_Number.j0,Bool.false_eq_true,if_false];exact go 0 (Nat.le_refl _) (by simp[mag]) (by simp) (by omega)
  | cons b r=>
    have h0:bt (Bs (b::r)) 0=(b.toNat:Int):=bt_Bs (l:=b::r) (i:=0) (by simp);simp only[List.length_cons,show((r.length+1:Nat):Int)>0 by omega,show(0:Int)<((r.length+1:Nat):Int) by omega,if_true,h0];refine Ev.succ ?_
    by_cases c:b=45
    · subst c;simp only[Bs_Number.j0,show(((45:UInt8).toNat:Int)==45)=true from rfl,if_true];exact go 1 (by simp) (by simp[mag]) (by simp) (by omega)
    · have hb:((b.toNat:Int)==45)=false:=beq_eq_false_iff_ne.mpr (fun h=>c (UInt8.toNat_inj.mp (by have:(45:UInt8).toNat=45:=rfl;omega)));simp only[Bs_Number.j0,hb,Bool.false_eq_true,if_false];exact go 0 (by simp) (by simp[mag,c]) (by simp[c]) (by omega)
def nums {α:Type} (f:List UInt8→Option α):List (List UInt8)→Option (List α)
 | []=>some []
 |b::r=>(f b).bind fun v=>(nums f r).map (v:: ·)
theorem nums_append {α:Type} (f:List UInt8→Option α) (b:List UInt8):∀ a:List (List UInt8),nums f (a++ [b])=(nums f a).bind fun acc=>(f b).map fun v=>acc++ [v]
 | []=>by
  simp only[List.nil_append,nums,Option.bind_some]
  cases f b<;>rfl
 | x::r=>by
  simp only[List.cons_append,nums,nums_append f b r]
  cases f x with
  |none=>rfl
  | some v=>
   simp only[Option.bind_some]
   cases nums f r with
   |none=>rfl
   |some s=>
    simp only[Option.bind_some,Option.map_some]
    cases f b<;>rfl
theorem pars_nums {α:Type} (f:List UInt8→Option α) (fr:List (List UInt8)) (P:Nat→Option (List α)) (h0:P 0=some []) (hs:∀ j,P (j+1)=(P j).bind fun acc=>((fr[j]?).bind f).map fun v=>acc++ [v]):
  ∀ j,j≤fr.length→P j=nums f (fr.take j)
 |0,_=>by rw[h0,List.take_zero];rfl
 |j+1,h=>by
  rw[hs,pars_nums f fr P h0 hs j (by omega),List.take_succ_eq_append_getElem (by omega),nums_append,List.getElem?_eq_getElem (by omega)]
  rfl
def numR (b:List UInt8):Option Int:=(accR b 5).bind fun v=>if 0≤v then some v else none
theorem num_eq (b:List UInt8):L_parsed.num b=numR b:=by
 unfold numR L_parsed.num;rw[← accP_eq b 5 (by omega)];unfold accP
 cases e:Lib.atoiAll b
 case ok v=>
  simp only
  by_cases h:0≤v
  ·have hm:Lib.itoa v=b→mag b=b:=by
    intro hi;rw[← hi];unfold Lib.itoa;rw[if_neg (by omega)];obtain⟨d,r,e2,h1,_⟩:=dec_head' v.toNat;unfold mag;rw[if_neg];rw[e2];simp only[List.head?_cons,Option.some.injEq];exact head_ne45 h1
   by_cases hi:Lib.itoa v=b
   ·rw [hm hi]
    by_cases h5:b.length≤5
    ·rw [if_pos ⟨h,hi,h5⟩,if_pos ⟨hi,h5⟩,Option.bind_some,if_pos h]
    ·rw [if_neg (fun x=>h5 x.2.2),if_neg (fun x=>h5 x.2)];rfl
   ·rw [if_neg (fun x=>hi x.2.1),if_neg (fun x=>hi x.1)];rfl
  ·rw [if_neg (fun x=>h x.1)]
   split
   ·rw [Option.bind_some,if_neg h]
   ·rfl
 all_goals rfl
def row (a:List UInt8):List Int×Bool:=match nums numR (cutB 32 a)with|some l=>(l,true)|none=>([],false)
theorem parsed_eq (a:List UInt8) (h:a.length≤1000000):L_parsed.f (Bs a)=some (row a):=by
 unfold L_parsed.f row;rw[if_pos (by rw[Bs_size];exact h)];have e:(Bs a).data.toList=a:=by unfold Bs;simp
 rw[e,pars_nums L_parsed.num _ (L_parsed.pars (cutB 32 a)) rfl (fun _=>rfl) _ (Nat.le_refl _),List.take_length];rw[show L_parsed.num=numR from funext num_eq]
 cases nums numR (cutB 32 a)<;>rfl
theorem numbers_l0 (fr:List (List UInt8)) (hl:fr.length≤1000001) (hf:∀ b∈fr,b.length≤1000000):∀ (n i:Nat) (o:List Int),i+n=fr.length→o.length≤i→
    Ev (fun k=>Rf_numbers.l0 k o (fr.map Bs) (i:Int)) (match nums numR (fr.drop i)with|some r=>(o++r,true)|none=>([],false))
  | 0,i,o,h,ho=>by
    refine Ev.succ ?_;simp only[Rf_numbers.l0,List.length_map,show ¬ (i:Int)<(fr.length:Int) by omega,if_false];rw[List.drop_eq_nil_of_le (show fr.length≤i by omega)];simp only[nums,List.append_nil];exact Ev.some
  | n + 1,i,o,h,ho=>by
    refine Ev.succ ?_;have hi:i<fr.length:=by omega
    have hr:rdOf ByteArray.empty (fr.map Bs) (i:Int)=Bs fr[i]:=by
      unfold rdOf
      simp[List.getD_eq_getElem?_getD,hi]
    simp only[Rf_numbers.l0,List.length_map,show(i:Int)<(fr.length:Int) by omega,show(0:Int)≤(i:Int) by omega,if_true,hr];refine Ev.bind (Number_ev fr[i] (hf _ (List.getElem_mem hi))) ?_;rw[List.drop_eq_getElem_cons hi];simp only[nums,numR]
    cases e:accR fr[i] 5 with
    | none=>
      simp only[Bool.false_eq_true,if_false,Option.bind_none];exact Ev.some
    | some v=>
      simp only[if_true,Option.bind_some]
      by_cases hv:0≤v
      · simp only[show ¬ v<0 by omega,hv,if_true,if_false,show o.length<17592186044416 by omega,Option.bind_some,up (show i<4611686018427387904 by omega)];have ih:=numbers_l0 fr hl hf n (i+1) (o++ [v]) (by omega) (by simp;omega)
        cases e3:nums numR (fr.drop (i+1))with
        |none=>rw[e3]at ih;exact ih
        | some r=>
          rw[e3]at ih;simp only[Option.map_some,List.append_assoc,List.singleton_append]at ih ⊢;exact ih
      · simp only[show v<0 by omega,hv,if_true,if_false,Option.bind_none];exact Ev.some
theorem numbers_ev (a:List UInt8) (h:a.length≤1000000):Ev (fun k=>Rf_numbers.f k (Bs a)) (row a):=by
 unfold Rf_numbers.f;refine Ev.bind (Cut_ev 32 a h) ?_;have:=numbers_l0 (cutB 32 a) (by have:=cutB_len 32 a;omega) (fun b hb=>by have:=cutB_mem 32 a b hb;omega) _ 0 [] (Nat.zero_add _) (Nat.zero_le _);simp only[List.drop_zero,List.nil_append]at this;exact this
def dd (u:Nat):List UInt8:=if u=0 then []else Lib.decDigits u
theorem dd_zero:dd 0=[]:=rfl
theorem dd_pos {u:Nat} (h:0<u):dd u=dd (u / 10)++ [UInt8.ofNat (48+u % 10)]:=by
 have e:dd u=Lib.decDigits u:=by unfold dd;rw[if_neg (by omega)]
 rw[e]
 by_cases h10:u<10
 ·rw [dec_small h10,show u / 10=0 by omega,show u % 10=u by omega];rfl
 ·rw [dec_big h10];unfold dd;rw[if_neg (by omega)]
theorem SizeAbs_eq (a:Int) (h: -9223372036854775808<a∧a≤9223372036854775807):Bs_Size.f a=some ((a.natAbs:Nat):Int):=by
 unfold Bs_Size.f mx;rw[w64 (by omega)]
 congr 1
 split<;>omega
theorem qb {x q:Int} (h:q.natAbs=x.natAbs / 10) (h1: -9223372036854775808≤x) (h2:x≤9223372036854775807): -9223372036854775808≤q∧q≤9223372036854775807:=by omega
theorem rb {x r:Int} (h:r.natAbs=x.natAbs % 10): -9223372036854775808<r∧r≤9223372036854775807:=by omega
theorem hb48 {d:Nat} (h:d<10):wrap64 (48+(d:Int)) % 256=((48+d:Nat):Int):=by
 rw[w64 (by omega)];omega
theorem Decimal_l0 (s:List UInt8) (hs:s.length≤1):∀ (n:Nat) (x:Int) (t:List UInt8), -9223372036854775808≤x→x≤9223372036854775807→x.natAbs<10 ^ n→t.length+n≤1000→
  Ev (fun k=>Bs_Decimal.l0 k x (Bs t) (Bs s)) (Bs (s++dd x.natAbs++t))
 |0,x,t,h1,h2,hn,ht=>by
  have:x=0:=by simp at hn;exact hn
  subst this;refine Ev.succ ?_;simp only[Bs_Decimal.l0,if_true,Bs_size,show s.length+t.length≤9223372036854775807 by omega,Bs_append];simp only[Int.natAbs_zero,dd_zero,List.append_nil];exact Ev.some
 | n+1,x,t,h1,h2,hn,ht=>by
  refine Ev.succ ?_
  by_cases hx:x=0
  ·subst hx;simp only[Bs_Decimal.l0,if_true,Bs_size,show s.length+t.length≤9223372036854775807 by omega,Bs_append];simp only[Int.natAbs_zero,dd_zero,List.append_nil];exact Ev.some
  ·have hm:(x.tmod 10).natAbs=x.natAbs % 10:=Int.natAbs_tmod x 10;have hq:(x.tdiv 10).natAbs=x.natAbs / 10:=Int.natAbs_tdiv x 10;have hn':(x.tdiv 10).natAbs<10 ^ n:=by
    rw[hq];exact Nat.div_lt_of_lt_mul (by rw[Nat.pow_succ,Nat.mul_comm]at hn;exact hn)
   clear hn;have hb:=hb48 (Nat.mod_lt x.natAbs (show 0<10 by omega));have hqb:=qb hq h1 h2;have hx0:0<x.natAbs:=Nat.pos_of_ne_zero (fun h=>hx (Int.natAbs_eq_zero.mp h));have ht1:t.length+1+n≤1000:=by clear hb hqb hm hq hn' hx0 h1 h2;omega
   have ht2:1+t.length≤9223372036854775807:=by clear hb hqb hm hq hn' hx0 h1 h2;omega
   have hstr:strOfNums [((48+x.natAbs % 10:Nat):Int)]=Bs [UInt8.ofNat (48+x.natAbs % 10)]:=by
    unfold strOfNums Bs;simp only[List.map_cons,List.map_nil,Int.toNat_natCast]
   have ih:=Decimal_l0 s hs n (x.tdiv 10) (UInt8.ofNat (48+x.natAbs % 10)::t) hqb.1 hqb.2 hn' (by rw[List.length_cons];exact ht1);simp only[Bs_Decimal.l0,hx,if_false,SizeAbs_eq _ (rb hm),hm,Option.bind_some,hb,hstr,Bs_size,List.length_singleton,ht2,if_true,Bs_append,List.singleton_append];rw[w64 (n:=x.tdiv 10) hqb];rw[dd_pos hx0];rw[hq]at ih
   simpa using ih
theorem Decimal_ev (x:Int) (h1: -9223372036854775808≤x) (h2:x≤9223372036854775807):Ev (fun k=>Bs_Decimal.f k x) (Bs (Lib.itoa x)):=by
 unfold Bs_Decimal.f
 by_cases h0:x=0
 ·subst h0;simp only[if_true];rw[show Lib.itoa 0=[48] by rw[show (0:Int)=((0:Nat):Int)from rfl,Lib.itoa_nonneg,dec_zero]];exact Ev.some
 simp only[h0,if_false];have hd:dd x.natAbs=Lib.decDigits x.natAbs:=by unfold dd;rw[if_neg (by omega)]
 by_cases hn:x<0
 ·simp only[hn,if_true];refine Ev.succ ?_;simp only[Bs_Decimal.j0];have:=Decimal_l0 [45] (by simp) 20 x [] h1 h2 (by omega) (by simp);rw[hd,List.append_nil]at this;rw[show Lib.itoa x=[45]++Lib.decDigits x.natAbs by unfold Lib.itoa;rw[if_pos hn];rfl];exact this
 ·simp only[hn,if_false];refine Ev.succ ?_;simp only[Bs_Decimal.j0];have:=Decimal_l0 [] (by simp) 20 x [] h1 h2 (by omega) (by simp);rw[hd,List.append_nil,List.nil_append]at this;rw[show Lib.itoa x=Lib.decDigits x.natAbs by unfold Lib.itoa;rw[if_neg hn,show x.toNat=x.natAbs by omega]];exact this
theorem Itoa_eq (x:Int) (h1: -9223372036854775808≤x) (h2:x≤9223372036854775807):strconv_Itoa.f x=some (Bs (Lib.itoa x)):=by
 unfold strconv_Itoa.f;rw[if_pos ⟨h1,h2⟩];rfl
theorem joinTail_len (c:UInt8) (m:Nat):∀ r:List (List UInt8),(∀ b∈r,b.length≤m)→(Lib.joinTail [c] r).length≤r.length*(m+1)
 | [],_=>by simp[Lib.joinTail]
 |b::r,h=>by
  have ih:=joinTail_len c m r (fun x hx=>h x (List.mem_cons_of_mem _ hx));have hb:=h b List.mem_cons_self;unfold Lib.joinTail at ih ⊢;simp only[List.map_cons,List.flatten_cons,List.length_append,List.length_cons,List.length_nil]at ih ⊢;rw[Nat.add_mul]
  omega
theorem join_len (c:UInt8) (m:Nat) (r:List (List UInt8)) (h:∀ b∈r,b.length≤m):(Lib.join r [c]).length≤r.length*(m+1):=by
  cases r with
  |nil=>simp[Lib.join_nil]
  | cons b r=>
    rw[Lib.join_cons];have:=joinTail_len c m r (fun x hx=>h x (List.mem_cons_of_mem _ hx));have hb:=h b List.mem_cons_self;simp only[List.length_append,List.length_cons,Nat.add_mul]
    omega
theorem Join_eq (c:UInt8) (ls:List (List UInt8)) (m:Nat) (hm:m≤1000000) (hl:ls.length≤1000000) (h:∀ b∈ls,b.length≤m):strings_Join.f (ls.map Bs) ⟨#[c]⟩=some (Bs (Lib.join ls [c])):=by
 unfold strings_Join.f;have e:(ls.map Bs).map (·.data.toList)=ls:=by
  rw[List.map_map];exact(List.map_congr_left (fun x _=>by simp[Bs])).trans (List.map_id _)
 have e2:(⟨#[c]⟩:ByteArray).data.toList=[c]:=rfl;rw[e,e2,if_pos]
 ·rfl
 ·refine ⟨by rw[List.length_map];omega,?_⟩;have:=join_len c m ls h;have:ls.length*(m+1)≤1000000*1000001:=Nat.mul_le_mul hl (by omega)
  omega
def I64 (x:Int):Prop:= -9223372036854775808≤x∧x≤9223372036854775807
def pr (l:List Int):List UInt8:=Lib.join (l.map Lib.itoa) [32]
theorem itoas_len {l:List Int} (h:∀ x∈l,I64 x):∀ b∈l.map Lib.itoa,b.length≤21:=by
 intro b hb;obtain⟨x,hx,rfl⟩:=List.mem_map.mp hb;exact Lib.itoa_length_le x (h x hx).1 (h x hx).2
theorem pr_len {l:List Int} (h:∀ x∈l,I64 x):(pr l).length≤l.length*22:=by
 have:=join_len 32 21 (l.map Lib.itoa) (itoas_len h)
 rwa [List.length_map]at this
theorem joined_l0 (l:List Int) (h:∀ x∈l,I64 x) (hl:l.length≤1000000):∀ (n i:Nat),i+n=l.length→Ev (fun k=>L_joined.l0 k (((l.take i).map Lib.itoa).map Bs) l (l.length:Int) (i:Int)) (Bs (pr l))
 |0,i,hi=>by
  refine Ev.succ ?_;simp only[L_joined.l0,show ¬ (i:Int)<(l.length:Int) by omega,if_false];rw[show l.take i=l from List.take_of_length_le (by omega),Join_eq 32 _ 21 (by omega) (by rw[List.length_map];exact hl) (itoas_len h)];exact Ev.some
 |n+1,i,hi=>by
  refine Ev.succ ?_;have hlt:i<l.length:=by omega
  have hx:=h l[i] (List.getElem_mem hlt);have hr:rd l (i:Int)=l[i]:=by rw[rd_nat];simp[List.getD_eq_getElem?_getD,hlt]
  simp only[L_joined.l0,show(i:Int)<(l.length:Int) by omega,show(0:Int)≤(i:Int) by omega,if_true,hr,Itoa_eq _ hx.1 hx.2,Option.bind_some,List.length_map,List.length_take,show min i l.length<8796093022208 by omega,up (show i<4611686018427387904 by omega)];have ih:=joined_l0 l h hl n (i+1) (by omega);rw[List.take_succ_eq_append_getElem hlt,List.map_append,List.map_append]at ih;exact ih
theorem joined_ev (l:List Int) (h:∀ x∈l,I64 x) (hl:l.length≤1000000):Ev (fun k=>L_joined.f k l) (Bs (pr l)):=
 joined_l0 l h hl l.length 0 (by omega)
theorem FormatProfile_ev (l:List Int) (h:∀ x∈l,I64 x) (hl:l.length≤1000000):Ev (fun k=>L_FormatProfile.f k l) (Bs (pr l)):=
 Ev.bind (joined_ev l h hl) Ev.some
theorem joinTail_cons (s b:List UInt8) (r:List (List UInt8)):Lib.joinTail s (b::r)=s++b++Lib.joinTail s r:=by simp[Lib.joinTail]
theorem words_l0 (l:List Int) (h:∀ x∈l,I64 x) (hl:l.length≤1000000):∀ (n i:Nat) (cur:List UInt8),i+n=l.length→0<i→cur.length≤i*22→
  Ev (fun k=>Rf_words.l0 k l (Bs cur) (i:Int)) (Bs (cur++Lib.joinTail [32] ((l.drop i).map Lib.itoa)))
 |0,i,cur,hi,h0,hc=>by
  refine Ev.succ ?_;simp only[Rf_words.l0,show ¬ (i:Int)<(l.length:Int) by omega,if_false];rw[List.drop_eq_nil_of_le (show l.length≤i by omega)];simp only[List.map_nil,Lib.joinTail,List.flatten_nil,List.append_nil];exact Ev.some
 |n+1,i,cur,hi,h0,hc=>by
  refine Ev.succ ?_;have hlt:i<l.length:=by omega
  have hx:=h l[i] (List.getElem_mem hlt);have hlen:=Lib.itoa_length_le _ hx.1 hx.2;have hr:rd l (i:Int)=l[i]:=by rw[rd_nat];simp[List.getD_eq_getElem?_getD,hlt]
  simp only[Rf_words.l0,show(i:Int)<(l.length:Int) by omega,show(i:Int)>0 by omega,show(0:Int)≤(i:Int) by omega,if_true,hr,Bs_size,show cur.length+1≤9223372036854775807 by omega,show(⟨#[32]⟩:ByteArray)=Bs [32]from rfl,Bs_append];refine Ev.bind (Decimal_ev l[i] hx.1 hx.2) ?_;have ih:=words_l0 l h hl n (i+1) (cur++ [32]++Lib.itoa l[i]) (by omega) (by omega) (by simp;omega);simp only[Bs_size,List.length_append,List.length_singleton,show cur.length+1+(Lib.itoa l[i]).length≤9223372036854775807 by omega,if_true,Bs_append,up (show i<4611686018427387904 by omega)];rw[List.drop_eq_getElem_cons hlt,List.map_cons,joinTail_cons, ←List.append_assoc, ←List.append_assoc];exact ih
theorem words_ev (l:List Int) (h:∀ x∈l,I64 x) (hl:l.length≤1000000):Ev (fun k=>Rf_words.f k l) (Bs (pr l)):=by
 unfold Rf_words.f;refine Ev.succ ?_
 cases l with
 |nil=>
  simp only[Rf_words.l0,List.length_nil,show ¬ ((0:Int)<((0:Nat):Int)) by omega,if_false];exact Ev.some
 |cons x r=>
  have hx:=h x List.mem_cons_self;have hlen:=Lib.itoa_length_le _ hx.1 hx.2;have hr:rd (x::r) 0=x:=rfl;simp only[Rf_words.l0,List.length_cons,show(0:Int)<((r.length+1:Nat):Int) by omega,show ¬ ((0:Int)>0) by omega,show(0:Int)≤0 by omega,if_true,if_false,hr];refine Ev.bind (Decimal_ev x hx.1 hx.2) ?_;have:=words_l0 (x::r) h hl r.length 1 (Lib.itoa x) (by simp;omega) (by omega) (by omega);simp only[show (⟨#[]⟩:ByteArray)=Bs []from rfl,Bs_size,List.length_nil,show 0+(Lib.itoa x).length≤9223372036854775807 by omega,if_true,Bs_append,List.nil_append,show wrap64 (0+1)=((1:Nat):Int) by unfold wrap64;omega];unfold pr;rw[List.map_cons,Lib.join_cons];exact this
theorem RefFormatProfile_ev (l:List Int) (h:∀ x∈l,I64 x) (hl:l.length≤1000000):Ev (fun k=>Rf_FormatProfile.f k l) (Bs (pr l)):=
 Ev.bind (words_ev l h hl) Ev.some
abbrev Ly:=S64
theorem Bs_of (s:ByteArray):s=Bs s.data.toList:=(Bs_data s).symm
def ppE (a:List UInt8):List Int×Int:=
 if 60000<a.length then([],8)else if(row a).2=true then(if(pE (row a).1).2=0 then((row a).1,0)else([],(pE (row a).1).2))else([],7)
theorem nums_len {α:Type} (f:List UInt8→Option α):∀ (a:List (List UInt8)) (l:List α),nums f a=some l→l.length=a.length
  | [],l,h=>by simp only[nums,Option.some.injEq]at h;subst h;rfl
  | b ::r,l,h=>by
    simp only[nums]at h
    cases e:f b with
    |none=>rw[e]at h;cases h
    | some v=>
      rw[e,Option.bind_some]at h
      cases e2:nums f r with
      |none=>rw[e2]at h;cases h
      | some s=>
        rw[e2,Option.map_some,Option.some.injEq]at h;subst h
        simp[nums_len f r s e2]
theorem row_len (a:List UInt8):(row a).1.length≤a.length+1:=by
  unfold row
  cases e:nums numR (cutB 32 a)with
  |none=>simp
  | some l=>
    have:=nums_len _ _ _ e;have:=cutB_len 32 a;simp only;omega
theorem ParseProfile_ev (a:List UInt8) (h:a.length≤1000000):Ev (fun k=>L_ParseProfile.f k (Bs a)) (ppE a):=by
 unfold L_ParseProfile.f ppE;simp only[Bs_size]
 by_cases c:60000<a.length
 ·simp only[show (a.length:Int)>60000 by omega,c,if_true];exact Ev.some
 simp only[show ¬ (a.length:Int)>60000 by omega,c,if_false,parsed_eq a h,Option.bind_some]
 by_cases d:(row a).2=true
 ·simp only[d,if_true];refine Ev.bind (CheckProfile_ev _ (by have:=row_len a;omega)) ?_
  by_cases e:(pE (row a).1).2=0
  ·simp only[e,if_true];exact Ev.some
  ·simp only[e,if_false];exact Ev.some
 ·simp only[d,if_false];exact Ev.some
theorem RefParseProfile_ev (a:List UInt8) (h:a.length≤1000000):Ev (fun k=>Rf_ParseProfile.f k (Bs a)) (ppE a):=by
 unfold Rf_ParseProfile.f ppE;simp only[Bs_size]
 by_cases c:60000<a.length
 ·simp only[show (a.length:Int)>60000 by omega,c,if_true];exact Ev.some
 simp only[show ¬ (a.length:Int)>60000 by omega,c,if_false];refine Ev.bind (numbers_ev a h) ?_
 by_cases d:(row a).2=true
 ·simp only[d,if_true];refine Ev.bind (ProfileErr_ev _ (by have:=row_len a;omega)) ?_
  by_cases e:(pE (row a).1).2=0
  ·simp only[e,if_true];exact Ev.some
  ·simp only[e,if_false];exact Ev.some
 ·simp only[d,if_false];exact Ev.some
def oneR (b:List UInt8):Option Ly:=if(row b).2=true∧(row b).1.length=3 then some ⟨rd (row b).1 0,rd (row b).1 1,rd (row b).1 2⟩else none
theorem one_eq (b:List UInt8) (h:b.length≤1000000):L_ParseLayers.one b=oneR b:=by
  unfold L_ParseLayers.one oneR;rw[show (⟨b.toArray⟩:ByteArray)=Bs b from rfl,parsed_eq b h];obtain⟨l,c⟩:=row b
  cases c with
  |true=>simp
  |false=>simp
theorem nums_congr {α:Type} {f g:List UInt8→Option α}:∀ (a:List (List UInt8)),(∀ b∈a,f b=g b)→nums f a=nums g a
 | [],_=>rfl
 |b::r,h=>by
  simp only[nums];rw[h b List.mem_cons_self,nums_congr r (fun x hx=>h x (List.mem_cons_of_mem _ hx))]
def plE (a:List UInt8):List Ly×Int:=
 if 60000<a.length then([],8)else if a=[]then([],0)else match nums oneR (cutB 59 a)with
 |some l=>if(laE l).2=0 then(l,0)else([],(laE l).2)
 |none=>([],7)
theorem ParseLayers_ev (a:List UInt8):Ev (fun k=>L_ParseLayers.f k (Bs a)) (plE a):=by
  unfold L_ParseLayers.f plE;have e:(Bs a).data.toList=a:=by unfold Bs;simp
  simp only[Bs_size,e]
  by_cases c:60000<a.length
  · simp only[show ¬ a.length≤60000 by omega,c,if_true,if_false];exact Ev.some
  simp only[show a.length≤60000 by omega,c,if_true,if_false]
  by_cases d:a=[]
  · simp only[d,List.length_nil,if_true];exact Ev.some
  simp only[d,show ¬ a.length=0 from fun x=>d (List.length_eq_zero_iff.mp x),if_false];rw[pars_nums L_ParseLayers.one _ (L_ParseLayers.pars (cutB 59 a)) rfl (fun _=>rfl) _ (Nat.le_refl _),List.take_length];rw[nums_congr (g:=oneR) (cutB 59 a) (fun b hb=>one_eq b (by have:=cutB_mem 59 a b hb;omega))]
  cases e2:nums oneR (cutB 59 a)with
  |none=>exact Ev.some
  | some l=>
    simp only;refine Ev.bind (CheckLayers_ev l (by have:=nums_len _ _ _ e2;have:=cutB_len 59 a;omega)) ?_
    by_cases e3:(laE l).2=0
    · simp only[e3,if_true];exact Ev.some
    · simp only[e3,if_false];exact Ev.some
theorem LayersErr_ev (l:List Ly) (hl:l.length<4611686018427387904):Ev (fun k=>Rf_LayersErr.f k l) (laE l).2:=by
 unfold Rf_LayersErr.f;exact Ev.bind (RefCheckLayers_ev l hl) Ev.some
theorem RefParseLayers_l0 (fr:List (List UInt8)) (hl:fr.length≤1000001) (hf:∀ b∈fr,b.length≤1000000):∀ (n i:Nat) (o:List Ly),i+n=fr.length→o.length≤i→
    Ev (fun k=>Rf_ParseLayers.l0 k o (fr.map Bs) (i:Int)) (match nums oneR (fr.drop i)with|some r=>if(laE (o++r)).2=0 then(o++r,0)else([],(laE (o++r)).2)|none=>([],7))
  | 0,i,o,h,ho=>by
    refine Ev.succ ?_;simp only[Rf_ParseLayers.l0,List.length_map,show ¬ (i:Int)<(fr.length:Int) by omega,if_false];rw[List.drop_eq_nil_of_le (show fr.length≤i by omega)];simp only[nums,List.append_nil];refine Ev.bind (LayersErr_ev o (by omega)) ?_
    by_cases e3:(laE o).2=0
    · simp only[e3,if_true];exact Ev.some
    · simp only[e3,if_false];exact Ev.some
  | n + 1,i,o,h,ho=>by
    refine Ev.succ ?_;have hi:i<fr.length:=by omega
    have hr:rdOf ByteArray.empty (fr.map Bs) (i:Int)=Bs fr[i]:=by
      unfold rdOf
      simp[List.getD_eq_getElem?_getD,hi]
    simp only[Rf_ParseLayers.l0,List.length_map,show(i:Int)<(fr.length:Int) by omega,show(0:Int)≤(i:Int) by omega,if_true,hr];refine Ev.bind (numbers_ev fr[i] (hf _ (List.getElem_mem hi))) ?_;rw[List.drop_eq_getElem_cons hi];have e2:nums oneR (fr[i]::fr.drop (i+1))=(oneR fr[i]).bind fun v=>(nums oneR (fr.drop (i+1))).map (v:: ·):=rfl;rw[e2];unfold oneR
    by_cases d:(row fr[i]).2=true
    · by_cases d3:(row fr[i]).1.length=3
      · simp only[d,d3,and_self,if_true,show((3:Nat):Int)=3 from rfl,show(0:Int)<3 by omega,show(1:Int)<3 by omega,show(2:Int)<3 by omega,show o.length<5864062014805 by omega,Option.bind_some,up (show i<4611686018427387904 by omega)];have ih:=RefParseLayers_l0 fr hl hf n (i+1) (o++ [⟨rd (row fr[i]).1 0,rd (row fr[i]).1 1,rd (row fr[i]).1 2⟩]) (by omega) (by simp;omega);have e4:nums (fun b=>if(row b).2=true∧(row b).1.length=3 then some (⟨rd (row b).1 0,rd (row b).1 1,rd (row b).1 2⟩:Ly)else none) (fr.drop (i+1))=nums oneR (fr.drop (i+1)):=rfl
        try rw[e4]
        cases e3:nums oneR (fr.drop (i+1))with
        |none=>rw[e3]at ih;exact ih
        | some r=>
          rw[e3]at ih;simp only[Option.map_some,List.append_assoc,List.singleton_append]at ih ⊢;exact ih
      · simp only[d,d3,and_false,if_true,if_false,show ¬ (((row fr[i]).1.length:Int)=3) by omega,Option.bind_none];exact Ev.some
    · simp only[d,false_and,if_false,Option.bind_none];exact Ev.some
theorem toList_nil (a:List UInt8):((Bs a).toList=([]:List UInt8))=(a=[]):=by
 apply propext
 constructor
 ·intro h;refine Classical.byContradiction fun hne=>?_;have:=toList_some (Bs a) (by rw[Bs_size];exact fun x=>hne (List.length_eq_zero_iff.mp x));rw[h]at this
  simp at this
 ·intro h;subst h;unfold ByteArray.toList ByteArray.toList.loop;rw[if_neg (by rw[Bs_size];simp)];rfl
theorem RefParseLayers_ev (a:List UInt8) (h:a.length≤1000000):Ev (fun k=>Rf_ParseLayers.f k (Bs a)) (plE a):=by
 unfold Rf_ParseLayers.f plE;simp only[Bs_size,toList_nil]
 by_cases c:60000<a.length
 ·simp only[show (a.length:Int)>60000 by omega,c,if_true];exact Ev.some
 simp only[show ¬ (a.length:Int)>60000 by omega,c,if_false]
 by_cases d:a=[]
 ·simp only[d,if_true];exact Ev.some
 simp only[d,if_false];refine Ev.bind (Cut_ev 59 a h) ?_;have:=RefParseLayers_l0 (cutB 59 a) (by have:=cutB_len 59 a;omega) (fun b hb=>by have:=cutB_mem 59 a b hb;omega) _ 0 [] (Nat.zero_add _) (Nat.zero_le _);simp only[List.drop_zero,List.nil_append]at this;exact this
def ly3 (y:Ly):List Int:=[y.f0,y.f1,y.f2]
def prl (l:List Ly):List UInt8:=Lib.join (l.map fun y=>pr (ly3 y)) [59]
def Lok (l:List Ly):Prop:=∀ y∈l,I64 y.f0∧I64 y.f1∧I64 y.f2
theorem ly3_ok {y:Ly} (h:I64 y.f0∧I64 y.f1∧I64 y.f2):∀ x∈ly3 y,I64 x:=by
 intro x hx;unfold ly3 at hx;simp only[List.mem_cons,List.not_mem_nil,or_false]at hx
 rcases hx with rfl|rfl|rfl
 ·exact h.1
 ·exact h.2.1
 ·exact h.2.2
theorem prs_len {l:List Ly} (h:Lok l):∀ b∈l.map (fun y=>pr (ly3 y)),b.length≤66:=by
 intro b hb;obtain⟨y,hy,rfl⟩:=List.mem_map.mp hb;exact pr_len (ly3_ok (h y hy))
theorem rdL_lt {x:List Ly} {i:Nat} (h:i<x.length):rd_T64 x (i:Int)=x[i]:=by unfold rd_T64;simp[h]
theorem FormatLayers_l0 (l:List Ly) (h:Lok l) (hl:l.length≤1000000):∀ (n i:Nat),i+n=l.length→Ev (fun k=>L_FormatLayers.l0 k (((l.take i).map fun y=>pr (ly3 y)).map Bs) l (l.length:Int) (i:Int)) (Bs (prl l))
 |0,i,hi=>by
  refine Ev.succ ?_;simp only[L_FormatLayers.l0,show ¬ (i:Int)<(l.length:Int) by omega,if_false];rw[show l.take i=l from List.take_of_length_le (by omega),Join_eq 59 _ 66 (by omega) (by rw[List.length_map];exact hl) (prs_len h)];exact Ev.some
 |n+1,i,hi=>by
  refine Ev.succ ?_;have hlt:i<l.length:=by omega
  simp only[L_FormatLayers.l0,show(i:Int)<(l.length:Int) by omega,show(0:Int)≤(i:Int) by omega,if_true,rdL_lt hlt];refine Ev.bind (joined_ev (ly3 l[i]) (ly3_ok (h _ (List.getElem_mem hlt))) (by simp[ly3])) ?_;simp only[List.length_map,List.length_take,show min i l.length<8796093022208 by omega,if_true,up (show i<4611686018427387904 by omega)];have ih:=FormatLayers_l0 l h hl n (i+1) (by omega);rw[List.take_succ_eq_append_getElem hlt,List.map_append,List.map_append]at ih;exact ih
theorem FormatLayers_ev (l:List Ly) (h:Lok l) (hl:l.length≤1000000):Ev (fun k=>L_FormatLayers.f k l) (Bs (prl l)):=
 FormatLayers_l0 l h hl l.length 0 (by omega)
theorem RefFormatLayers_l0 (l:List Ly) (h:Lok l) (hl:l.length≤1000000):∀ (n i:Nat) (cur:List UInt8),i+n=l.length→0<i→cur.length≤i*67→
  Ev (fun k=>Rf_FormatLayers.l0 k l (Bs cur) (i:Int)) (Bs (cur++Lib.joinTail [59] ((l.drop i).map fun y=>pr (ly3 y))))
 |0,i,cur,hi,h0,hc=>by
  refine Ev.succ ?_;simp only[Rf_FormatLayers.l0,show ¬ (i:Int)<(l.length:Int) by omega,if_false];rw[List.drop_eq_nil_of_le (show l.length≤i by omega)];simp only[List.map_nil,Lib.joinTail,List.flatten_nil,List.append_nil];exact Ev.some
 |n+1,i,cur,hi,h0,hc=>by
  refine Ev.succ ?_;have hlt:i<l.length:=by omega
  have ho:=ly3_ok (h _ (List.getElem_mem hlt));have hlen:(pr (ly3 l[i])).length≤66:=pr_len ho;simp only[Rf_FormatLayers.l0,show(i:Int)<(l.length:Int) by omega,show(i:Int)>0 by omega,show(0:Int)≤(i:Int) by omega,if_true,rdL_lt hlt,Bs_size,show cur.length+1≤9223372036854775807 by omega,show(⟨#[59]⟩:ByteArray)=Bs [59]from rfl,Bs_append];refine Ev.bind (words_ev (ly3 l[i]) ho (by simp[ly3])) ?_;have ih:=RefFormatLayers_l0 l h hl n (i+1) (cur++ [59]++pr (ly3 l[i])) (by omega) (by omega) (by simp only[List.length_append,List.length_singleton];omega);simp only[Bs_size,List.length_append,List.length_singleton,show cur.length+1+(pr (ly3 l[i])).length≤9223372036854775807 by omega,if_true,Bs_append,up (show i<4611686018427387904 by omega)];rw[List.drop_eq_getElem_cons hlt,List.map_cons,joinTail_cons, ←List.append_assoc, ←List.append_assoc];exact ih
theorem RefFormatLayers_ev (l:List Ly) (h:Lok l) (hl:l.length≤1000000):Ev (fun k=>Rf_FormatLayers.f k l) (Bs (prl l)):=by
 unfold Rf_FormatLayers.f;refine Ev.succ ?_
 cases l with
 |nil=>
  simp only[Rf_FormatLayers.l0,List.length_nil,show ¬ ((0:Int)<((0:Nat):Int)) by omega,if_false];exact Ev.some
 |cons y r=>
  have ho:=ly3_ok (h y List.mem_cons_self);have hlen:(pr (ly3 y)).length≤66:=pr_len ho;have hr:rd_T64 (y::r) 0=y:=rfl;simp only[Rf_FormatLayers.l0,List.length_cons,show(0:Int)<((r.length+1:Nat):Int) by omega,show ¬ ((0:Int)>0) by omega,show(0:Int)≤0 by omega,if_true,if_false,hr];refine Ev.bind (words_ev (ly3 y) ho (by simp[ly3])) ?_;have:=RefFormatLayers_l0 (y::r) h hl r.length 1 (pr (ly3 y)) (by simp;omega) (by omega) (by omega);simp only[show (⟨#[]⟩:ByteArray)=Bs []from rfl,Bs_size,List.length_nil,show 0+(pr (ly3 y)).length≤9223372036854775807 by omega,if_true,Bs_append,List.nil_append,show wrap64 (0+1)=((1:Nat):Int) by unfold wrap64;omega];unfold prl;rw[List.map_cons,Lib.join_cons];exact this
theorem cutB_app (c:UInt8):∀ (x r:List UInt8),c∉x→cutB c (x++c::r)=x::cutB c r
 | [],r,_=>by simp[cutB]
 |b::x,r,h=>by
  have hb:b≠c:=fun e=>h (by rw[e];exact List.mem_cons_self);have ih:=cutB_app c x r (fun e=>h (List.mem_cons_of_mem _ e));rw[List.cons_append,cutB,if_neg hb,ih];rfl
theorem cutB_self (c:UInt8):∀ x:List UInt8,c∉x→cutB c x=[x]
 | [],_=>rfl
 |b::x,h=>by
  have hb:b≠c:=fun e=>h (by rw[e];exact List.mem_cons_self);unfold cutB;rw[if_neg hb,cutB_self c x (fun e=>h (List.mem_cons_of_mem _ e))];rfl
theorem cutB_join (c:UInt8):∀ (x:List UInt8) (r:List (List UInt8)),(∀ b∈x::r,c∉b)→cutB c (x++Lib.joinTail [c] r)=x::r
 |x,[],h=>by
  rw[show Lib.joinTail [c] []=[]from rfl,List.append_nil];exact cutB_self c x (h x List.mem_cons_self)
 |x,y::r,h=>by
  rw[joinTail_cons,List.append_assoc,List.singleton_append,cutB_app c x _ (h x List.mem_cons_self),cutB_join c y r (fun b hb=>h b (List.mem_cons_of_mem _ hb))]
theorem dec_mem (u:Nat):∀ b∈Lib.decDigits u,48≤b.toNat∧b.toNat≤57:=by
 induction u using Nat.strongRecOn with
 | ind u ih=>
  have hb:∀ d:Nat,d<10→48≤(UInt8.ofNat (48+d)).toNat∧(UInt8.ofNat (48+d)).toNat≤57:=by
   intro d hd;have:(UInt8.ofNat (48+d)).toNat=(48+d) % 256:=UInt8.toNat_ofNat'
   omega
  by_cases h:u<10
  ·rw [dec_small h];intro b hb';rw[List.mem_singleton.mp hb'];exact hb u h
  ·rw [dec_big h];intro b hb'
   rcases List.mem_append.mp hb' with h1|h1
   ·exact ih (u / 10) (by omega) b h1
   ·rw [List.mem_singleton.mp h1];exact hb _ (by omega)
theorem itoa_mem {x:Int} (h:0≤x):∀ b∈Lib.itoa x,48≤b.toNat∧b.toNat≤57:=by
 unfold Lib.itoa;rw[if_neg (by omega)];exact dec_mem _
theorem itoa_no {x:Int} (h:0≤x) (c:UInt8) (hc:c.toNat<48∨57<c.toNat):c∉Lib.itoa x:=by
 intro hm;have:=itoa_mem h c hm
 omega
theorem dec_len5 (u:Nat) (h:u<100000):(Lib.decDigits u).length≤5:=by
 by_cases h1:u<10
 ·rw [dec_small h1];simp
 rw[dec_big h1]
 by_cases h2:u / 10<10
 ·rw [dec_small h2];simp
 rw[dec_big h2]
 by_cases h3:u / 10 / 10<10
 ·rw [dec_small h3];simp
 rw[dec_big h3]
 by_cases h4:u / 10 / 10 / 10<10
 ·rw [dec_small h4];simp
 rw[dec_big h4];rw[dec_small (show u / 10 / 10 / 10 / 10<10 by omega)];simp
theorem numR_itoa {x:Int} (h:0≤x∧x≤20000):numR (Lib.itoa x)=some x:=by
 unfold numR;have hl:(mag (Lib.itoa x)).length≤5:=by
  refine Nat.le_trans (mag_len _) ?_;unfold Lib.itoa;rw[if_neg (by omega)];exact dec_len5 _ (by omega)
 rw[accR_itoa hl,Option.bind_some,if_pos h.1]
theorem nums_map {α β:Type} (f:List UInt8→Option α) (g:α→List UInt8):∀ l:List α,(∀ x∈l,f (g x)=some x)→nums f (l.map g)=some l
 | [],_=>rfl
 |x::r,h=>by
  simp only[List.map_cons,nums];rw[h x List.mem_cons_self,nums_map (β:=β) f g r (fun y hy=>h y (List.mem_cons_of_mem _ hy))];rfl
theorem row_pr {l:List Int} (h0:l≠ []) (h:∀ x∈l,0≤x∧x≤20000):row (pr l)=(l,true):=by
  unfold row;have hc:cutB 32 (pr l)=l.map Lib.itoa:=by
    unfold pr
    cases l with
    |nil=>exact absurd rfl h0
    | cons x r=>
      rw[List.map_cons,Lib.join_cons];refine cutB_join 32 _ _ (fun b hb=>?_);rw[← List.map_cons]at hb;obtain⟨y,hy,rfl⟩:=List.mem_map.mp hb;exact itoa_no (h y hy).1 32 (.inl (by decide))
  rw[hc,nums_map (β:=Unit) numR Lib.itoa l (fun x hx=>numR_itoa (h x hx))]
theorem i64_of {x:Int} (h:0≤x∧x≤20000):I64 x:=by unfold I64;omega
theorem ppE_pr {l:List Int} (h:(pE l).2=0):ppE (pr l)=(l,0):=by
 obtain⟨h1,h2,h3⟩:=pE_ok h;have h4:∀ x∈l,0≤x∧x≤20000:=fun x hx=>by have:=h3 x hx;omega
 unfold ppE;have:=pr_len (l:=l) (fun x hx=>i64_of (h4 x hx));rw[if_neg (by omega),row_pr (by intro e;rw[e]at h1;simp at h1) h4];simp only[if_true,h]
theorem join_mem (c:UInt8):∀ (ls:List (List UInt8)) (b:UInt8),b∈Lib.joinTail [c] ls→b=c∨∃ l∈ls,b∈l
 | [],b,h=>by simp[Lib.joinTail]at h
 | x::r,b,h=>by
  rw[joinTail_cons]at h
  rcases List.mem_append.mp h with h|h
  ·rcases List.mem_append.mp h with h|h
   ·exact .inl (List.mem_singleton.mp h)
   ·exact .inr ⟨x,List.mem_cons_self,h⟩
  ·rcases join_mem c r b h with h|⟨l,hl,h⟩
   ·exact .inl h
   ·exact .inr ⟨l,List.mem_cons_of_mem _ hl,h⟩
theorem pr_no {l:List Int} (h:∀ x∈l,0≤x∧x≤20000):(59:UInt8)∉pr l:=by
  unfold pr;have key:∀ x∈l,(59:UInt8)∉Lib.itoa x:=fun x hx=>itoa_no (h x hx).1 59 (.inr (by decide))
  cases l with
  |nil=>simp[Lib.join_nil]
  | cons x r=>
    rw[List.map_cons,Lib.join_cons];intro hm
    rcases List.mem_append.mp hm with hm|hm
    · exact key x List.mem_cons_self hm
    · rcases join_mem 32 _ _ hm with hm|⟨b,hb,hm⟩
      · exact absurd hm (by decide)
      · obtain⟨y,hy,rfl⟩:=List.mem_map.mp hb;exact key y (List.mem_cons_of_mem _ hy) hm
theorem lE_ok {y:Ly} (h:lE y=0):∀ x∈ly3 y,0≤x∧x≤20000:=by
 unfold lE at h
 split at h
 ·rename_i c
  intro x hx;unfold ly3 at hx;simp only[List.mem_cons,List.not_mem_nil,or_false]at hx
  rcases hx with rfl|rfl|rfl<;>omega
 ·exact absurd h (by omega)
theorem oneR_pr {y:Ly} (h:lE y=0):oneR (pr (ly3 y))=some y:=by
 unfold oneR;rw[row_pr (by simp[ly3]) (lE_ok h)];rw[if_pos ⟨rfl,rfl⟩];rfl
theorem plE_prl {l:List Ly} (h:(laE l).2=0):plE (prl l)=(l,0):=by
  have h0:=(laE_ok h).1;have hz:∀ y∈l,lE y=0:=by
    unfold laE at h;rw[if_neg (by omega)]at h;exact chk_all h
  have hlen:(prl l).length≤l.length*67:=by
    have:=join_len 59 66 (l.map fun y=>pr (ly3 y)) (fun b hb=>by
      obtain⟨y,hy,rfl⟩:=List.mem_map.mp hb;exact pr_len (l:=ly3 y) (fun x hx=>i64_of (lE_ok (hz y hy) x hx)))
    rwa [List.length_map]at this
  unfold plE;rw[if_neg (by omega)]
  cases l with
  |nil=>rw[if_pos (by rfl)]
  | cons y r=>
    have hne:prl (y::r)≠ []:=by
      unfold prl pr ly3;simp only[List.map_cons];rw[Lib.join_cons,Lib.join_cons];intro e;have e:=(List.append_eq_nil_iff.mp (List.append_eq_nil_iff.mp e).1).1;have h5:=(lE_ok (hz y List.mem_cons_self) y.f0 (by simp[ly3])).1;unfold Lib.itoa at e;rw[if_neg (by omega)]at e;exact dec_ne _ e
    rw[if_neg hne];have hc:cutB 59 (prl (y::r))=(y::r).map fun y=>pr (ly3 y):=by
      unfold prl;rw[List.map_cons,Lib.join_cons];refine cutB_join 59 _ _ (fun b hb=>?_);rw[← List.map_cons (f:=fun y=>pr (ly3 y))]at hb;obtain⟨z,hz',rfl⟩:=List.mem_map.mp hb;exact pr_no (lE_ok (hz z hz'))
    rw[hc,nums_map (β:=Unit) oneR (fun y=>pr (ly3 y)) (y::r) (fun x hx=>oneR_pr (hz x hx))];simp only[h,if_true]
theorem SameLayers_l0 (x:List Ly) (hl:x.length<4611686018427387904):∀ (n i:Nat),i+n=x.length→Ev (fun k=>Rf_SameLayers.l0 k x x (i:Int)) true
 |0,i,h=>by
  refine Ev.succ ?_;simp only[Rf_SameLayers.l0,show ¬ (i:Int)<(x.length:Int) by omega,if_false];exact Ev.some
 |n+1,i,h=>by
  refine Ev.succ ?_;simp only[Rf_SameLayers.l0,show(i:Int)<(x.length:Int) by omega,show(0:Int)≤(i:Int) by omega,if_true,beq_self_eq_true,Bool.not_true,Bool.or_false,Bool.false_eq_true,if_false,up (show i<4611686018427387904 by omega)];exact SameLayers_l0 x hl n (i+1) (by omega)
theorem SameLayers_ev (x:List Ly) (hl:x.length<4611686018427387904):Ev (fun k=>Rf_SameLayers.f k x x) true:=by
 unfold Rf_SameLayers.f;simp only[if_true];exact SameLayers_l0 x hl x.length 0 (by omega)
theorem CS_j2 (x:List Ly) (hx:Lok x) (hl:x.length≤1000000):Ev (fun k=>Lw_CloudStrings.j2 k x (Bs (prl x))) true:=by
 refine Ev.succ ?_;simp only[Lw_CloudStrings.j2];refine Ev.bind (LayersErr_ev x (by omega)) ?_
 by_cases e:(laE x).2=0
 ·simp only[e,if_true];refine Ev.bind (ParseLayers_ev _) ?_;rw[plE_prl e];simp only[if_true];exact Ev.bind (SameLayers_ev x (by omega)) Ev.some
 ·simp only[e,if_false];exact Ev.some
theorem CS_j1 (l:List Int) (hl:∀ x∈l,I64 x) (hn:l.length≤1000) (x:List Ly) (hx:Lok x) (hm:x.length≤1000):Ev (fun k=>Lw_CloudStrings.j1 k l x (Bs (pr l)) (Bs (prl x)) false) true:=by
 refine Ev.succ ?_;simp only[Lw_CloudStrings.j1,Bool.false_eq_true,if_false];refine Ev.bind (ProfileErr_ev l (by omega)) ?_
 by_cases e:(pE l).2=0
 ·simp only[e,if_true];refine Ev.bind (ParseProfile_ev _ (by have:=pr_len hl;omega)) ?_;rw[ppE_pr e];simp only[if_true];refine Ev.bind (Ints_ev l (by omega)) ?_;simp only[if_true];exact CS_j2 x hx (by omega)
 ·simp only[e,if_false];exact CS_j2 x hx (by omega)
theorem CS_j0 (l:List Int) (hl:∀ x∈l,I64 x) (hn:l.length≤26) (x:List Ly) (hx:Lok x) (hm:x.length≤12) (s:List UInt8) (hs:s.length≤60010):Ev (fun k=>Lw_CloudStrings.j0 k l x (Bs s) false) true:=by
 refine Ev.succ ?_;simp only[Lw_CloudStrings.j0,Bool.false_eq_true,if_false,CopyInts_eq l (by omega),CopyLayers_eq x (by omega),Option.bind_some];refine Ev.bind (FormatProfile_ev l hl (by omega)) ?_;refine Ev.bind (FormatLayers_ev x hx (by omega)) ?_;refine Ev.bind (ParseProfile_ev s (by omega)) ?_;refine Ev.bind (ParseLayers_ev s) ?_;refine Ev.bind (RefParseProfile_ev s (by omega)) ?_;refine Ev.bind (RefParseLayers_ev s (by omega)) ?_;refine Ev.bind (RefFormatProfile_ev l hl (by omega)) ?_;simp only[if_true];refine Ev.bind (RefFormatLayers_ev x hx (by omega)) ?_;simp only[if_true];have h1:(ppE s).1.length<4611686018427387904:=by
  unfold ppE;have:=row_len s
  split
  ·simp
  split
  ·split
   ·simp only;omega
   ·simp
  ·simp
 have h2:(plE s).1.length<4611686018427387904:=by
  unfold plE
  split
  ·simp
  split
  ·simp
  split
  ·rename_i r e
   have:=nums_len _ _ _ e;have:=cutB_len 59 s
   split
   ·simp only;omega
   ·simp
  ·simp
 refine Ev.bind (Ints_ev _ h1) ?_;simp only[if_true];refine Ev.bind (SameLayers_ev _ h2) ?_;simp only[Bool.not_true];exact CS_j1 l hl (by omega) x hx (by omega)
theorem CloudStrings_ev (l:List Int) (hl:∀ x∈l,I64 x) (x:List Ly) (hx:Lok x) (s:ByteArray):Ev (fun k=>Lw_CloudStrings.f k l x s) true:=by
 rw[Bs_of s];generalize s.data.toList=s;unfold Lw_CloudStrings.f;refine Ev.bind awake_ev ?_;have hskip:Ev (fun k=>Lw_CloudStrings.j0 k l x (Bs s) true) true:=by
  refine Ev.succ ?_;simp only[Lw_CloudStrings.j0,if_true];exact Ev.some
 simp only[if_true,few_eq,Option.bind_some,decide_eq_true_eq,Bs_size]
 by_cases c1:l.length≤26
 rotate_left
 ·simp only[c1,if_false];exact hskip
 simp only[c1,if_true]
 by_cases c2:x.length≤12
 rotate_left
 ·simp only[show (x.length:Int)>12 by omega,if_true];exact hskip
 simp only[show ¬ (x.length:Int)>12 by omega,if_false]
 by_cases c5:(s.length:Int)>60010
 ·simp only[c5,show(s.length:Int)>300 by omega,show ¬ (s.length:Int)≤60000 by omega,if_true,if_false,decide_true];exact hskip
 have hgo:=CS_j0 l hl c1 x hx c2 s (by omega);simp only[c5,decide_false]
 by_cases c3:(s.length:Int)>300
 ·by_cases c4:(s.length:Int)≤60000
  ·simp only[c3,c4,if_true];exact hskip
  ·simp only[c3,c4,if_true,if_false];exact hgo
 ·simp only[c3,if_false];exact hgo
theorem i64_wf {x:Int} (h:(Lit.int .i64 x).wf=true):I64 x:=i64_in h
theorem CloudStrings_pure (l:List Int) (_:l.length≤maxLen) (hw:∀ x∈l,(Lit.int .i64 x).wf=true) (x:List Ly) (hx:x.length≤maxLen∧∀ y∈x,(Lit.int .i64 y.f0).wf=true∧(Lit.int .i64 y.f1).wf=true∧(Lit.int .i64 y.f2).wf=true) (s:ByteArray) (_:s.size≤maxLen):∃ k,Lw_CloudStrings.f k l x s=some true:=
 (CloudStrings_ev l (fun y hy=>i64_wf (hw y hy)) x (fun y hy=>⟨i64_wf (hx.2 y hy).1,i64_wf (hx.2 y hy).2.1,i64_wf (hx.2 y hy).2.2⟩) s).ex
end Go.Proofs.YteiafijbgjgiaaaGreatDoor.P
