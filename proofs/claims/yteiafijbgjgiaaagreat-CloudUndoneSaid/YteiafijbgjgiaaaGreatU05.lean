/-
PLAIN LAW: what the walks compute answers as the statement says (no program in sight; Ev: from some number of rounds on).
-/
import Derived.Test.YteiafijbgjgiaaaGreatU04
namespace Go.Proofs.YteiafijbgjgiaaaGreat.P
open Go Go.RowKit Go.Proofs.YteiafijbgjgiaaaGreat.A Go.Proofs.YteiafijbgjgiaaaGreatW.PrintWords Go.Proofs.YteiafijbgjgiaaaGreatW.PrintLast Go.Proofs.YteiafijbgjgiaaaGreatW.PrintMore
set_option linter.unusedSimpArgs false
set_option linter.unusedVariables false
def Ev {α:Type} (f:Nat→Option α) (r:α):Prop:=∃ k,∀ j,k≤j→f j=some r

theorem Ev.some {α:Type} {r:α}:Ev (fun _=>Option.some r) r:=⟨0,fun _ _=>rfl⟩
theorem Ev.bind {α β:Type} {f:Nat→Option α} {g:Nat→α→Option β} {a:α} {b:β} (h:Ev f a) (h2:Ev (fun k=>g k a) b):Ev (fun k=>(f k).bind (g k)) b:=by
 obtain⟨k,hk⟩:=h;obtain⟨m,hm⟩:=h2;exact⟨max k m,fun j hj=>by show(f j).bind (g j)=_;rw[hk j (by omega)];exact hm j (by omega)⟩
theorem Ev.succ {α:Type} {f:Nat→Option α} {r:α} (h:Ev (fun k=>f (k+1)) r):Ev f r:=by
 obtain⟨k,hk⟩:=h;exact⟨k+1,fun j hj=>by obtain⟨m,rfl⟩:∃ m,j=m+1:=⟨j-1,by omega⟩;exact hk m (by omega)⟩
theorem Ev.congr {α:Type} {f g:Nat→Option α} {r:α} (e:∀ k,f k=g k) (h:Ev f r):Ev g r:=by
 obtain⟨k,hk⟩:=h;exact⟨k,fun j hj=>by rw[← e j];exact hk j hj⟩
theorem Ev.ex {α:Type} {f:Nat→Option α} {r:α} (h:Ev f r):∃ k,f k=Option.some r:=let ⟨k,hk⟩:=h;⟨k,hk k (Nat.le_refl _)⟩
theorem Ev.of_mono {α:Type} {f:Nat→Option α} {r:α} (hm:∀ k,LeO (f k) (f (k+1))) {k:Nat} (h:f k=Option.some r):Ev f r:=by
  refine⟨k,fun j hj=>?_⟩
  induction j with
  | zero => obtain rfl:k=0:=by omega
            exact h
  | succ j ih=>
    by_cases e:k=j+1
    · subst e;exact h
    · exact hm j r (ih (by omega))
theorem up {i:Nat} (h:i<4611686018427387904):wrap64 ((i:Int)+1)=((i+1:Nat):Int):=by
 unfold wrap64;omega
theorem w64 {n:Int} (h: -9223372036854775808≤n∧n≤9223372036854775807):wrap64 n=n:=by unfold wrap64;omega
theorem rd_nat (l:List Int) (i:Nat):rd l (i:Int)=l.getD i 0:=by unfold rd;simp
theorem drop_rd {l:List Int} {i:Nat} (h:i<l.length):l.drop i=rd l (i:Int)::l.drop (i+1):=by
 rw[rd_nat,List.drop_eq_getElem_cons h]
 simp[List.getD_eq_getElem?_getD,h]
theorem drop_getD {α:Type} {l:List α} {i:Nat} (z:α) (h:i<l.length):l.drop i=l.getD i z::l.drop (i+1):=by
 rw[List.drop_eq_getElem_cons h]
 simp[List.getD_eq_getElem?_getD,h]

theorem mx_eq (a b:Int):mx a b=max a b:=by unfold mx;split<;>omega
theorem within_eq (a b c:Int):L_within.f a b c=some (decide (b≤a∧a≤c)):=by
 unfold L_within.f
 by_cases h:b≤a<;>simp[h]
theorem Within_eq (a b c:Int):Bs_Within.f a b c=some (decide (b≤a∧a≤c)):=by
 unfold Bs_Within.f
 by_cases h:b≤a<;>simp[h]
theorem unless_eq (b:Bool) (e:Int):L_unless.f b e=some (if b=true then 0 else e):=by
 unfold L_unless.f
 cases b<;>simp
theorem Size_eq (a:Int):Bs_Size.f a=some (mx a (wrap64 (-a))):=rfl

def fnz:List Int→Int
 | []=>0
 |x::r=>if x=0 then fnz r else x

theorem first_l0 (l:List Int) (hl:l.length<4611686018427387904):∀ (n i:Nat),i+n=l.length→Ev (fun k=>L_first.l0 k l (l.length:Int) (i:Int)) (fnz (l.drop i))
 |0,i,h=>by
  refine Ev.succ (f:=fun k=>L_first.l0 k l (l.length:Int) (i:Int)) ?_;have h1:¬ (i:Int)<(l.length:Int):=by omega
  simp only[L_first.l0,h1,if_false];rw[show l.drop i=[]from List.drop_eq_nil_of_le (by omega)];exact Ev.some
 |n+1,i,h=>by
  refine Ev.succ (f:=fun k=>L_first.l0 k l (l.length:Int) (i:Int)) ?_;have h1:(i:Int)<(l.length:Int):=by omega
  have h2:(0:Int)≤(i:Int):=by omega
  simp only[L_first.l0,h1,h2,if_true,up (show i<4611686018427387904 by omega)];rw[drop_rd (show i<l.length by omega)];unfold fnz
  by_cases e:rd l (i:Int)=0
  ·simp only[e,if_true];exact first_l0 l hl n (i+1) (by omega)
  ·simp only[e,if_false];exact Ev.some
theorem first_ev (l:List Int) (hl:l.length<4611686018427387904):Ev (fun k=>L_first.f k l) (fnz l):=first_l0 l hl l.length 0 (by omega)

theorem size_abs {x:Int} (h: -9223372036854775807≤x∧x≤9223372036854775807):mx x (wrap64 (-x))=(x.natAbs:Int):=by
 rw[w64 (n:= -x) (by omega),mx_eq];omega
theorem gcd_step (x y:Int):Int.gcd y (x.tmod y)=Int.gcd x y:=by
 show Nat.gcd y.natAbs (x.tmod y).natAbs=Nat.gcd x.natAbs y.natAbs
 rw[Int.natAbs_tmod,Nat.gcd_comm, ←Nat.gcd_rec,Nat.gcd_comm]
theorem tmod_in {x y:Int} (h0:y≠0):(x.tmod y).natAbs<y.natAbs:=by
 rw[Int.natAbs_tmod];exact Nat.mod_lt _ (by omega)
theorem Gcd_l0:∀ (m:Nat) (x y:Int),y.natAbs≤m→x.natAbs<9223372036854775808→y.natAbs<9223372036854775808→Ev (fun k=>Bs_Gcd.l0 k x y) (Int.gcd x y:Int)
 |0,x,y,h,hx,_=>by
  refine Ev.succ (f:=fun k=>Bs_Gcd.l0 k x y) ?_;obtain rfl:y=0:=by omega
  simp only[Bs_Gcd.l0,if_true,Size_eq,Option.bind_some,size_abs (x:=x) (by omega),Int.gcd_zero_right];exact Ev.some
 |m+1,x,y,h,hx,hy=>by
  refine Ev.succ (f:=fun k=>Bs_Gcd.l0 k x y) ?_
  by_cases h0:y=0
  ·subst h0;simp only[Bs_Gcd.l0,if_true,Size_eq,Option.bind_some,size_abs (x:=x) (by omega),Int.gcd_zero_right];exact Ev.some
  ·simp only[Bs_Gcd.l0,h0,if_false];have ht:=tmod_in (x:=x) h0;rw[← gcd_step x y];exact Gcd_l0 m y (x.tmod y) (by omega) hy (by omega)
theorem divisor_l0:∀ (m:Nat) (x y:Int),y.natAbs≤m→x.natAbs<9223372036854775808→y.natAbs<9223372036854775808→Ev (fun k=>L_divisor.l0 k x y) (Int.gcd x y:Int)
 |0,x,y,h,hx,_=>by
  refine Ev.succ (f:=fun k=>L_divisor.l0 k x y) ?_;obtain rfl:y=0:=by omega
  simp only[L_divisor.l0,if_true,size_abs (x:=x) (by omega),Int.gcd_zero_right];exact Ev.some
 |m+1,x,y,h,hx,hy=>by
  refine Ev.succ (f:=fun k=>L_divisor.l0 k x y) ?_
  by_cases h0:y=0
  ·subst h0;simp only[L_divisor.l0,if_true,size_abs (x:=x) (by omega),Int.gcd_zero_right];exact Ev.some
  ·simp only[L_divisor.l0,h0,if_false];have ht:=tmod_in (x:=x) h0;rw[← gcd_step x y];exact divisor_l0 m y (x.tmod y) (by omega) hy (by omega)
theorem divisor_ev {x y:Int} (hx:x.natAbs<9223372036854775808) (hy:y.natAbs<9223372036854775808):Ev (fun k=>L_divisor.f k x y) (Int.gcd x y:Int):=divisor_l0 _ x y (Nat.le_refl _) hx hy

theorem CopyInts_eq (l:List Int) (h:l.length<4611686018427):Bs_CopyInts.f l=some l:=by
 unfold Bs_CopyInts.f;simp only[Option.bind_some,List.length_nil,List.nil_append];rw[if_pos (by omega)]
theorem few_eq (l:List Int):Lw_few.f l=some (decide (l.length≤26)):=by
 unfold Lw_few.f;congr 2;apply propext;omega
def chk {α:Type} (p:α→Int):List α→Nat→Int×Int
 | [],_=>(0,0)
 |x::r,i=>if p x=0 then chk p r (i+1)else((i:Int),p x)
theorem chk_all {α:Type} {p:α→Int}:∀ {l:List α} {i:Nat},(chk p l i).2=0→∀ x∈l,p x=0
 | [],i,_=>by simp
 | y::r,i,h=>by
  unfold chk at h
  split at h<;>rename_i e
  ·intro x hx
   rcases List.mem_cons.mp hx with rfl|hx
   ·exact e
   ·exact chk_all h x hx
  ·exact absurd h e
theorem chk_of {α:Type} {p:α→Int}:∀ {l:List α} {i:Nat},(∀ x∈l,p x=0)→chk p l i=(0,0)
 | [],i,_=>rfl
 |y::r,i,h=>by
  unfold chk;rw[if_pos (h y List.mem_cons_self)];exact chk_of (fun x hx=>h x (List.mem_cons_of_mem _ hx))
theorem chk_loop {α:Type} (z:α) (p:α→Int) (l:List α) (hl:l.length<4611686018427387904) (F:Nat→Int→Option (Int×Int))
  (h0:∀ k i,¬ i<(l.length:Int)→F (k+1) i=some (0,0))
  (h1:∀ k (i:Nat),i<l.length→F (k+1) (i:Int)=if p (l.getD i z)=0 then F k (wrap64 ((i:Int)+1))else some ((i:Int),p (l.getD i z))):
  ∀ (n i:Nat),i+n=l.length→Ev (fun k=>F k (i:Int)) (chk p (l.drop i) i)
 |0,i,h=>by
  refine Ev.succ (f:=fun k=>F k (i:Int)) ?_;rw[show l.drop i=[]from List.drop_eq_nil_of_le (by omega)];exact Ev.congr (fun k=>(h0 k i (by omega)).symm) Ev.some
 |n+1,i,h=>by
  refine Ev.succ (f:=fun k=>F k (i:Int)) ?_;refine Ev.congr (fun k=>(h1 k i (by omega)).symm) ?_;rw[drop_getD z (show i<l.length by omega)];unfold chk
  by_cases e:p (l.getD i z)=0
  ·simp only[e,if_true,up (show i<4611686018427387904 by omega)];exact chk_loop z p l hl F h0 h1 n (i+1) (by omega)
  ·simp only[e,if_false];exact Ev.some
theorem isSignal_eq (a:Int):L_isSignal.f a=some (decide (0≤a∧a≤10000)):=by
 unfold L_isSignal.f;rw[within_eq];rfl
theorem isConstant_eq (a:Int):L_isConstant.f a=some (decide (1≤a∧a≤1000000)):=by
 unfold L_isConstant.f;rw[within_eq];rfl
def sE (x:Int):Int:=if 0≤x∧x≤10000 then 0 else 2
def pE (l:List Int):Int×Int:=if l.length=0 then(0,10)else if 24<l.length then(0,8)else chk sE l 0
theorem CheckProfile_1_eq (a:Int):L_CheckProfile_1.f a=some (sE a):=by
 unfold L_CheckProfile_1.f sE;simp only[isSignal_eq,unless_eq,Option.bind_some,decide_eq_true_eq]
theorem each_profile_ev (l:List Int) (hl:l.length<4611686018427387904):Ev (fun k=>L_each_int_CheckProfile_1.f k l) (chk sE l 0):=by
 refine chk_loop 0 sE l hl (fun k i=>L_each_int_CheckProfile_1.l0 k l (l.length:Int) i) (fun k i h=>?_) (fun k i h=>?_) l.length 0 (by omega)
 ·simp only[L_each_int_CheckProfile_1.l0,h,if_false]
 ·simp only[L_each_int_CheckProfile_1.l0,show(i:Int)<(l.length:Int) by omega,show(0:Int)≤(i:Int) by omega,if_true,CheckProfile_1_eq,Option.bind_some,rd_nat]
theorem CheckProfile_ev (l:List Int) (hl:l.length<4611686018427387904):Ev (fun k=>L_CheckProfile.f k l) (pE l):=by
 unfold L_CheckProfile.f;simp only[unless_eq,Option.bind_some];refine Ev.bind (first_ev _ (by simp)) ?_;unfold pE
 by_cases h1:l.length=0
 ·simp only[h1,show ¬ ((0:Nat):Int)>0 by omega,decide_false,fnz];exact Ev.some
 ·by_cases h2:24<l.length
  ·simp only[h1,h2,show(l.length:Int)>0 by omega,show ¬ (l.length:Int)≤24 by omega,decide_false,decide_true,fnz,if_true,if_false];exact Ev.some
  ·simp only[h1,h2,show(l.length:Int)>0 by omega,show(l.length:Int)≤24 by omega,decide_true,fnz,if_true,if_false];exact Ev.bind (each_profile_ev l hl) Ev.some
theorem RefCheckProfile_ev (l:List Int) (hl:l.length<4611686018427387904):Ev (fun k=>Rf_CheckProfile.f k l) (pE l):=by
 unfold Rf_CheckProfile.f pE
 by_cases h1:l.length=0
 ·simp only[h1];exact Ev.some
 ·by_cases h2:24<l.length
  ·simp only[h1,h2,show ¬ (l.length:Int)=0 by omega,show(l.length:Int)>24 by omega,if_true,if_false];exact Ev.some
  ·simp only[h1,h2,show ¬ (l.length:Int)=0 by omega,show ¬ (l.length:Int)>24 by omega,if_false];refine chk_loop 0 sE l hl (fun k i=>Rf_CheckProfile.l0 k l i) (fun k i h=>?_) (fun k i h=>?_) l.length 0 (by omega)
   ·simp only[Rf_CheckProfile.l0,h,if_false]
   ·simp only[Rf_CheckProfile.l0,show(i:Int)<(l.length:Int) by omega,show(0:Int)≤(i:Int) by omega,if_true,Within_eq,Option.bind_some,rd_nat,sE,decide_eq_true_eq]
    split<;>simp
theorem open_ev (l:List Int) (hl:l.length<4611686018427387904):Ev (fun k=>L_open.f k l) (l,(pE l).2):=by
 unfold L_open.f;exact Ev.bind (CheckProfile_ev l hl) Ev.some
theorem pE_ok {l:List Int} (h:(pE l).2=0):0<l.length∧l.length≤24∧∀ x∈l,0≤x∧x≤10000:=by
 unfold pE at h
 split at h
 ·exact absurd h (by simp)
 split at h
 ·exact absurd h (by simp)
 refine⟨by omega,by omega,fun x hx=>?_⟩;have:=chk_all h x hx;unfold sE at this
 split at this<;>omega
def sm:List Int→Int
 | []=>0
 |x::r=>x+sm r
theorem sm_append (a b:List Int):sm (a++b)=sm a+sm b:=by
  induction a with
  |nil=>simp[sm]
  |cons x r ih=>simp only[List.cons_append,sm,ih];omega
theorem sm_nonneg:∀ {l:List Int},(∀ x∈l,0≤x∧x≤10000)→0≤sm l∧sm l≤10000*(l.length:Int)
 | [],_=>by simp[sm]
 |x::r,h=>by
  have:=sm_nonneg (l:=r) (fun y hy=>h y (List.mem_cons_of_mem _ hy));have h2:=h x List.mem_cons_self;simp only[sm,List.length_cons];omega
theorem take_succ_sm {l:List Int} {i:Nat} (h:i<l.length):sm (l.take (i+1))=sm (l.take i)+l.getD i 0:=by
 rw[List.take_add_one,sm_append]
 simp[List.getD_eq_getElem?_getD,h,sm]
theorem getD_mem {l:List Int} {i:Nat} (h:i<l.length):l.getD i 0∈l:=by
 simp[List.getD_eq_getElem?_getD,h]
theorem sm_take {l:List Int} (hb:∀ x∈l,0≤x∧x≤10000) (i:Nat) (hl:l.length≤24):0≤sm (l.take i)∧sm (l.take i)≤240000:=by
 have:=sm_nonneg (l:=l.take i) (fun x hx=>hb x (List.mem_of_mem_take hx));have h2:(l.take i).length≤24:=by rw[List.length_take];omega
 omega
theorem sum_l0 (l:List Int) (hb:∀ x∈l,0≤x∧x≤10000) (hl:l.length≤24):∀ (n i:Nat),i+n=l.length→Ev (fun k=>L_profile_sum.l0 k (sm (l.take i)) l (l.length:Int) (i:Int)) (sm l)
 |0,i,h=>by
  refine Ev.succ (f:=fun k=>L_profile_sum.l0 k (sm (l.take i)) l (l.length:Int) (i:Int)) ?_;simp only[L_profile_sum.l0,show ¬ (i:Int)<(l.length:Int) by omega,if_false];rw[List.take_of_length_le (by omega)];exact Ev.some
 |n+1,i,h=>by
  refine Ev.succ (f:=fun k=>L_profile_sum.l0 k (sm (l.take i)) l (l.length:Int) (i:Int)) ?_;have hi:i<l.length:=by omega
  have h1:=sm_take hb i hl;have h2:=sm_take hb (i+1) hl;rw[take_succ_sm hi]at h2;simp only[L_profile_sum.l0,show(i:Int)<(l.length:Int) by omega,show(0:Int)≤(i:Int) by omega,if_true,up (show i<4611686018427387904 by omega),rd_nat];rw[w64 (n:=sm (l.take i)+l.getD i 0) (by omega), ←take_succ_sm hi];exact sum_l0 l hb hl n (i+1) (by omega)
theorem sum_ev (l:List Int) (hb:∀ x∈l,0≤x∧x≤10000) (hl:l.length≤24):Ev (fun k=>L_profile_sum.f k l) (sm l):=by
 have:=sum_l0 l hb hl l.length 0 (by omega);exact this
theorem Rest_l0 (l:List Int) (c:Int) (hc: -4000000≤c∧c≤4000000) (hb:∀ x∈l,0≤x∧x≤10000) (hl:l.length≤24) (g:Nat) (hg:g≤l.length):∀ (n i:Nat),i+n=g→Ev (fun k=>Rf_Rest.l0 k l (c-sm (l.take i)) (g:Int) (i:Int)) (c-sm (l.take g))
 |0,i,h=>by
  refine Ev.succ (f:=fun k=>Rf_Rest.l0 k l (c-sm (l.take i)) (g:Int) (i:Int)) ?_;simp only[Rf_Rest.l0,show ¬ (i:Int)<(g:Int) by omega,if_false];rw[show i=g by omega];exact Ev.some
 |n+1,i,h=>by
  refine Ev.succ (f:=fun k=>Rf_Rest.l0 k l (c-sm (l.take i)) (g:Int) (i:Int)) ?_;have hi:i<l.length:=by omega
  have h1:=sm_take hb i hl;have h2:=sm_take hb (i+1) hl;rw[take_succ_sm hi]at h2;simp only[Rf_Rest.l0,show(i:Int)<(g:Int) by omega,show(i:Int)<(l.length:Int) by omega,show(0:Int)≤(i:Int) by omega,if_true,up (show i<4611686018427387904 by omega),rd_nat];rw[w64 (n:=c-sm (l.take i)-l.getD i 0) (by omega),show c-sm (l.take i)-l.getD i 0=c-sm (l.take (i+1)) by rw[take_succ_sm hi];omega];exact Rest_l0 l c hc hb hl g hg n (i+1) (by omega)
theorem Rest_ev (l:List Int) (c:Int) (hc: -4000000≤c∧c≤4000000) (hb:∀ x∈l,0≤x∧x≤10000) (hl:l.length≤24) (g:Nat) (hg:g≤l.length):Ev (fun k=>Rf_Rest.f k l c (g:Int)) (c-sm (l.take g)):=by
 have:=Rest_l0 l c hc hb hl g hg g 0 (by omega);rw[show c-sm (l.take 0)=c by simp[sm]]at this;exact this
def brk:List Int→Int→Int
 | [],c=>if c<0 then 20 else 0
 |x::r,c=>if c≤0 then 20 else brk r (c-x)
theorem Break_l0 (l:List Int) (c:Int) (hc:0≤c∧c≤4000000) (hb:∀ x∈l,0≤x∧x≤10000) (hl:l.length≤24):∀ (n i:Nat),i+n=l.length→Ev (fun k=>Rf_BreakErr.l0 k l c (i:Int)) (brk (l.drop i) (c-sm (l.take i)))
 |0,i,h=>by
  refine Ev.succ (f:=fun k=>Rf_BreakErr.l0 k l c (i:Int)) ?_;simp only[Rf_BreakErr.l0,show ¬ (i:Int)<(l.length:Int) by omega,if_false];refine Ev.bind (Rest_ev l c (by omega) hb hl l.length (Nat.le_refl _)) ?_;rw[show l.drop i=[]from List.drop_eq_nil_of_le (by omega),show i=l.length by omega];unfold brk
  split<;>exact Ev.some
 |n+1,i,h=>by
  refine Ev.succ (f:=fun k=>Rf_BreakErr.l0 k l c (i:Int)) ?_;have hi:i<l.length:=by omega
  simp only[Rf_BreakErr.l0,show(i:Int)<(l.length:Int) by omega,if_true,up (show i<4611686018427387904 by omega)];refine Ev.bind (Rest_ev l c (by omega) hb hl i (by omega)) ?_;rw[drop_getD 0 hi];unfold brk
  split
  ·exact Ev.some
  ·rw [show c-sm (l.take i)-l.getD i 0=c-sm (l.take (i+1)) by rw[take_succ_sm hi];omega];exact Break_l0 l c hc hb hl n (i+1) (by omega)
theorem Break_ev (l:List Int) (c:Int) (hc:0≤c∧c≤4000000) (hb:∀ x∈l,0≤x∧x≤10000) (hl:l.length≤24):Ev (fun k=>Rf_BreakErr.f k l c) (brk l c):=by
 have:=Break_l0 l c hc hb hl l.length 0 (by omega);rw[show c-sm (l.take 0)=c by simp[sm]]at this;exact this
def fr (x c:Int):S24:=⟨Int.tdiv x (Int.gcd x c),Int.tdiv c (Int.gcd x c)⟩
def shs:List Int→Int→List S24
 | [],_=> []
 |x::r,c=>fr x c::shs r (c-x)
theorem tdiv_in {a b M:Int} (ha: -M≤a∧a≤M): -M≤Int.tdiv a b∧Int.tdiv a b≤M:=by
 have h6:(a.tdiv b).natAbs≤a.natAbs:=by rw[Int.natAbs_tdiv];exact Nat.div_le_self _ _
 omega
theorem gcd_pos {x c:Int} (h:0<c):(Int.gcd x c:Int)≠0:=by
 intro h0;have:Int.gcd x c=0:=by omega
 have:=(Int.gcd_eq_zero_iff.mp this).2
 omega
theorem fraction_ev {x c:Int} (hx:0≤x∧x≤10000) (hc:0<c∧c≤4000000):Ev (fun k=>L_fraction.f k x c) ((fr x c).f0,(fr x c).f1):=by
 unfold L_fraction.f;refine Ev.bind (divisor_ev (by omega) (by omega)) ?_;rw[if_neg (gcd_pos hc.1)];have h1:=tdiv_in (a:=x) (b:=(Int.gcd x c:Int)) (M:=10000) (by omega);have h2:=tdiv_in (a:=c) (b:=(Int.gcd x c:Int)) (M:=4000000) (by omega);rw[w64 (by omega),w64 (by omega)];exact Ev.some
def shR:List S24→List Int→Int→List S24×Int
 |a,[],_=>(a,0)
 |a,x::r,c=>if c=0 then([],20)else shR (a++ [fr x c]) r (c-x)
theorem shares_l0 (l:List Int) (hb:∀ x∈l,0≤x∧x≤10000) (hl:l.length≤24):∀ (n i:Nat) (a:List S24) (c:Int),i+n=l.length→a.length=i→c≤4000000→sm (l.drop i)≤c→Ev (fun k=>L_profile_shares.l0 k a c l (l.length:Int) (i:Int)) (shR a (l.drop i) c)
 |0,i,a,c,h,_,_,_=>by
  refine Ev.succ (f:=fun k=>L_profile_shares.l0 k a c l (l.length:Int) (i:Int)) ?_;simp only[L_profile_shares.l0,show ¬ (i:Int)<(l.length:Int) by omega,if_false];rw[show l.drop i=[]from List.drop_eq_nil_of_le (by omega)];exact Ev.some
 |n+1,i,a,c,h,ha,hc,hs=>by
  refine Ev.succ (f:=fun k=>L_profile_shares.l0 k a c l (l.length:Int) (i:Int)) ?_;have hi:i<l.length:=by omega
  have hx:=hb _ (getD_mem hi);rw[drop_getD 0 hi]at hs ⊢;have hs2:=(sm_nonneg (l:=l.drop (i+1)) (fun y hy=>hb y (List.mem_of_mem_drop hy))).1;simp only[sm]at hs;simp only[L_profile_shares.l0,show(i:Int)<(l.length:Int) by omega,show(0:Int)≤(i:Int) by omega,if_true,up (show i<4611686018427387904 by omega),rd_nat,show a.length<8796093022208 by omega];unfold shR
  by_cases h0:c=0
  ·simp only[h0,if_true];exact Ev.some
  ·simp only[h0,if_false];refine Ev.bind (fraction_ev hx (by omega)) ?_;rw[w64 (by omega)];exact shares_l0 l hb hl n (i+1) (a++ [fr (l.getD i 0) c]) (c-l.getD i 0) (by omega) (by simp[ha]) (by omega) (by omega)
theorem brk_over:∀ (l:List Int) (c:Int),c<sm l→brk l c=20
 | [],c,h=>by unfold brk;simp only[sm]at h;rw[if_pos h]
 |x::r,c,h=>by
  unfold brk;split
  ·rfl
  ·simp only[sm]at h;exact brk_over r _ (by omega)
theorem shR_eq:∀ (l:List Int) (a:List S24) (c:Int),(∀ x∈l,0≤x∧x≤10000)→sm l≤c→shR a l c=if brk l c=0 then(a++shs l c,0)else([],20)
 | [],a,c,_,h=>by
  simp only[sm]at h;have e:brk [] c=0:=by unfold brk;rw[if_neg (by omega)]
  rw[if_pos e];simp[shR,shs]
 | x::r,a,c,hb,h=>by
  have hb2:∀ y∈r,0≤y∧y≤10000:=fun y hy=>hb y (List.mem_cons_of_mem _ hy);have h1:=sm_nonneg (l:=r) hb2;have h2:=hb x List.mem_cons_self;simp only[sm]at h;unfold shR brk shs
  by_cases h0:c=0
  ·rw [if_pos h0,if_pos (show c≤0 by omega),if_neg (by omega)]
  ·rw [if_neg h0,if_neg (show ¬ c≤0 by omega),shR_eq r _ _ hb2 (by omega)]
   simp
theorem shares_ev (l:List Int) (c:Int) (hc:c≤4000000) (hb:∀ x∈l,0≤x∧x≤10000) (hl:l.length≤24):Ev (fun k=>L_profile_shares.f k l c) (if brk l c=0 then(shs l c,0)else([],20)):=by
 unfold L_profile_shares.f;refine Ev.bind (sum_ev l hb hl) ?_
 by_cases h:sm l>c
 ·simp only[h,if_true];rw[brk_over l c h];exact Ev.some
 ·simp only[h,if_false];have:=shares_l0 l hb hl l.length 0 [] c (by omega) rfl hc (by simpa using (by omega:sm l≤c));rw[List.drop_zero,shR_eq l [] c hb (by omega)]at this;exact this
theorem shs_length:∀ (l:List Int) (c:Int),(shs l c).length=l.length
 | [],_=>rfl
 |x::r,c=>by simp[shs,shs_length r]
def cE (a:Int):Int:=if 1≤a∧a≤1000000 then 0 else 2
theorem constantErr_eq (a:Int):L_constantErr.f a=some (cE a):=by
 unfold L_constantErr.f cE;simp only[isConstant_eq,unless_eq,Option.bind_some,decide_eq_true_eq]
theorem ConstantErr_eq (a:Int):Rf_ConstantErr.f a=some (cE a):=by
 unfold Rf_ConstantErr.f cE;simp only[Within_eq,Option.bind_some,decide_eq_true_eq]
 split<;>rfl
def dE (l:List Int) (a:Int):Int:=if(pE l).2=0 then cE a else(pE l).2
theorem Undone_ev (l:List Int) (a:Int) (hl:l.length<4611686018427387904):Ev (fun k=>L_Undone.f k l a) (if dE l a=0 then(if brk l a=0 then(shs l a,0)else([],20))else([],dE l a)):=by
 unfold L_Undone.f;refine Ev.bind (open_ev l hl) ?_;simp only[constantErr_eq,Option.bind_some];refine Ev.bind (first_ev _ (by simp)) ?_;have e:fnz [(pE l).2,cE a]=dE l a:=by
  unfold dE fnz fnz
  split
  ·split<;>rename_i h
   ·rw [h];rfl
   ·rfl
  ·rfl
 rw[e]
 by_cases h:dE l a=0
 ·simp only[h,if_true];have h2:(pE l).2=0:=by unfold dE at h;split at h<;>assumption
  obtain⟨h3,h4,h5⟩:=pE_ok h2;have h6:1≤a∧a≤1000000:=by unfold dE cE at h;rw[if_pos h2]at h;split at h<;>omega
  exact Ev.bind (shares_ev l a (by omega) h5 h4) Ev.some
 ·simp only[h,if_false];exact Ev.some
abbrev St:=Option (List S40×S40)
def stepG (gap:Int) (s:St) (i:Int):St:=
 match s with
 |none=>some ([],⟨i,i⟩)
 |some (b,r)=>if i-r.f1-1≤gap then some (b,⟨r.f0,i⟩)else some (b++ [r],⟨i,i⟩)
def G (p:Int→Bool) (gap:Int):Nat→St
 |0=>none
 |n+1=>if p (n:Int)=true then stepG gap (G p gap n) (n:Int)else G p gap n
def ptE (n d:Int):Int:=if 0<d∧Int.gcd n d=1 then(if(0≤n∧n≤d)∧d≤1000000000 then 0 else 2)else 3
theorem divisor_pos {x y:Int} (hx:x.natAbs≤9223372036854775808) (hy:0<y∧y≤9223372036854775807):Ev (fun k=>L_divisor.f k x y) (Int.gcd x y:Int):=by
 have ht:=tmod_in (x:=x) (y:=y) (by omega);have h:Ev (fun k=>L_divisor.l0 k x y) (Int.gcd x y:Int):=by
  refine Ev.succ (f:=fun k=>L_divisor.l0 k x y) ?_;simp only[L_divisor.l0,show ¬ y=0 by omega,if_false];rw[← gcd_step x y];exact divisor_l0 _ y (x.tmod y) (Nat.le_refl _) (by omega) (by omega)
 exact h
theorem Gcd_pos {x y:Int} (hx:x.natAbs≤9223372036854775808) (hy:0<y∧y≤9223372036854775807):Ev (fun k=>Bs_Gcd.f k x y) (Int.gcd x y:Int):=by
 have ht:=tmod_in (x:=x) (y:=y) (by omega);have h:Ev (fun k=>Bs_Gcd.l0 k x y) (Int.gcd x y:Int):=by
  refine Ev.succ (f:=fun k=>Bs_Gcd.l0 k x y) ?_;simp only[Bs_Gcd.l0,show ¬ y=0 by omega,if_false];rw[← gcd_step x y];exact Gcd_l0 _ y (x.tmod y) (Nat.le_refl _) (by omega) (by omega)
 exact h
theorem partErr_j0 (b:Bool) (n d:Int):Ev (fun k=>L_partErr.j0 k b n d) (if b=true then 3 else(if(0≤n∧n≤d)∧d≤1000000000 then 0 else 2)):=by
 refine Ev.succ (f:=fun k=>L_partErr.j0 k b n d) ?_;simp only[L_partErr.j0,within_eq,unless_eq,Option.bind_some,decide_eq_true_eq]
 by_cases hb:b=true
 ·simp only[hb,if_true];exact Ev.some
 ·simp only[hb,if_false]
  by_cases h:0≤n∧n≤d
  ·simp only[h,and_self,true_and,if_true];exact Ev.some
  ·simp only[h,false_and,if_false,Bool.false_eq_true];exact Ev.some
theorem partErr_ev {n d:Int} (hn: -9223372036854775808≤n∧n≤9223372036854775807) (hd: -9223372036854775808≤d∧d≤9223372036854775807):Ev (fun k=>L_partErr.f k n d) (ptE n d):=by
 unfold L_partErr.f ptE
 by_cases h0:d≤0
 ·simp only[h0,if_true,show ¬ 0<d by omega,false_and,if_false];exact partErr_j0 true n d
 ·simp only[h0,if_false,show 0<d by omega,true_and];refine Ev.bind (divisor_pos (by omega) (by omega)) ?_
  by_cases h1:Int.gcd n d=1
  ·simp only[h1,if_true];exact partErr_j0 _ n d
  ·simp only[h1,if_false];have:((Int.gcd n d:Int) != 1)=true:=by simp;omega
   rw[this];exact partErr_j0 true n d
theorem PartErr_ev {n d:Int} (hn: -9223372036854775808≤n∧n≤9223372036854775807) (hd: -9223372036854775808≤d∧d≤9223372036854775807):Ev (fun k=>Rf_PartErr.f k n d) (ptE n d):=by
 unfold Rf_PartErr.f Bs_IsLowest.f ptE
 by_cases h0:0<d
 ·simp only[gt_iff_lt,h0,if_true,true_and];refine Ev.bind (a:=decide (Int.gcd n d=1)) (Ev.bind (Gcd_pos (by omega) (by omega)) (by rw[show ((Int.gcd n d:Int)==1)=decide (Int.gcd n d=1) by rw[Bool.eq_iff_iff];simp;omega];exact Ev.some)) ?_;simp only[Within_eq,Option.bind_some,decide_eq_true_eq]
  by_cases h1:Int.gcd n d=1
  ·simp only[h1,if_true]
   by_cases h2:0≤n∧n≤d
   ·simp only[h2,and_self,true_and,if_true]
    by_cases h3:d≤1000000000
    ·rw [if_neg (by omega),if_pos h3];exact Ev.some
    ·rw [if_pos (by omega),if_neg h3];exact Ev.some
   ·simp only[h2,false_and,if_false];exact Ev.some
  ·simp only[h1,if_false];exact Ev.some
 ·simp only[gt_iff_lt,h0,if_false,false_and,Option.bind_some,Bool.false_eq_true];exact Ev.some
theorem ptE_ok {n d:Int} (h:ptE n d=0):0≤n∧n≤d∧0<d∧d≤1000000000∧Int.gcd n d=1:=by
 unfold ptE at h
 split at h
 ·split at h
  ·omega
  ·omega
 ·omega
theorem fnz2 (a b:Int):fnz [a,b]=if a=0 then b else a:=by
 unfold fnz fnz fnz;split
 ·split<;>simp_all
 ·rfl
theorem fnz3 (a b c:Int):fnz [a,b,c]=if a=0 then(if b=0 then c else b)else a:=by
 rw[fnz,fnz2]
theorem fnz4 (a b c d:Int):fnz [a,b,c,d]=if a=0 then(if b=0 then(if c=0 then d else c)else b)else a:=by
 rw[fnz,fnz3]
theorem ProfileErr_ev (l:List Int) (hl:l.length<4611686018427387904):Ev (fun k=>Rf_ProfileErr.f k l) (pE l).2:=by
 unfold Rf_ProfileErr.f;exact Ev.bind (RefCheckProfile_ev l hl) Ev.some
theorem cE_ok {c:Int} (h:cE c=0):1≤c∧c≤1000000:=by unfold cE at h;split at h<;>omega
def ip:List Int→Int
 | []=>1
 |x::r=>x*ip r
theorem ip_append (a b:List Int):ip (a++b)=ip a*ip b:=by
  induction a with
  |nil=>simp[ip]
  |cons x r ih=>simp only[List.cons_append,ip,ih,Int.mul_assoc]
theorem ip_pos:∀ {l:List Int},(∀ x∈l,0<x)→0<ip l
 | [],_=>by simp[ip]
 |x::r,h=>by
  simp only[ip];exact Int.mul_pos (h x List.mem_cons_self) (ip_pos (fun y hy=>h y (List.mem_cons_of_mem _ hy)))
def rdc:Int→List Int→Int×List Int
 |x,[]=>(x,[])
 |x,u::us=>((rdc (x / (Int.gcd x u:Int)) us).1,u / (Int.gcd x u:Int)::(rdc (x / (Int.gcd x u:Int)) us).2)
def rdcAll:List Int→List Int→List Int×List Int
 | [],us=>([],us)
 |o::os,us=>((rdc o us).1::(rdcAll os (rdc o us).2).1,(rdcAll os (rdc o us).2).2)
theorem gcd_pos2 {x u:Int} (h:0<x):0<(Int.gcd x u:Int):=by
 have:Int.gcd x u≠0:=by
  intro h0;have:=(Int.gcd_eq_zero_iff.mp h0).1
  omega
 omega
theorem div_gcd {x u:Int} (hx:0<x) (hu:0<u):0<x / (Int.gcd x u:Int)∧0<u / (Int.gcd x u:Int)∧x / (Int.gcd x u:Int)*u=x*(u / (Int.gcd x u:Int))∧Int.gcd (x / (Int.gcd x u:Int)) (u / (Int.gcd x u:Int))=1:=by
 have hg:=gcd_pos2 (x:=x) (u:=u) hx;obtain⟨a,ha⟩:=Int.gcd_dvd_left (a:=x) (b:=u);obtain⟨b,hb⟩:=Int.gcd_dvd_right (a:=x) (b:=u);have hgc:=Int.gcd_ediv_gcd_ediv_gcd_of_ne_zero_left (n:=x) (m:=u) (by omega);generalize (Int.gcd x u:Int)=g at *;have e1:x / g=a:=by rw[ha];exact Int.mul_ediv_cancel_left _ (by omega)
 have e2:u / g=b:=by rw[hb];exact Int.mul_ediv_cancel_left _ (by omega)
 have p1:0<a:=by
  rw[ha,Int.mul_comm]at hx;exact Int.pos_of_mul_pos_left hx hg
 have p2:0<b:=by
  rw[hb,Int.mul_comm]at hu;exact Int.pos_of_mul_pos_left hu hg
 rw[e1,e2];refine⟨p1,p2,?_,?_⟩
 ·rw [ha,hb,Int.mul_assoc,Int.mul_left_comm]
 ·rw [e1,e2]at hgc;exact hgc
theorem gcd_of_dvd {x y u:Int} (h:x∣y) (hu:Int.gcd y u=1):Int.gcd x u=1:=by
 have h1:x.natAbs∣y.natAbs:=Int.natAbs_dvd_natAbs.mpr h;exact Nat.Coprime.coprime_dvd_left h1 hu
theorem gcd_of_dvd_right {x u v:Int} (h:v∣u) (hu:Int.gcd x u=1):Int.gcd x v=1:=by
 have h1:v.natAbs∣u.natAbs:=Int.natAbs_dvd_natAbs.mpr h;exact Nat.Coprime.coprime_dvd_right h1 hu
theorem rdc_spec:∀ (us:List Int) (x:Int),0<x→(∀ u∈us,0<u)→
  0<(rdc x us).1∧(rdc x us).1∣x∧(rdc x us).2.length=us.length∧(∀ u∈(rdc x us).2,0<u)∧(rdc x us).1*ip us=x*ip (rdc x us).2∧(∀ u∈(rdc x us).2,Int.gcd (rdc x us).1 u=1)∧(∀ y:Int,(∀ u∈us,Int.gcd y u=1)→∀ u∈(rdc x us).2,Int.gcd y u=1)∧(∀ M:Int,(∀ u∈us,u≤M)→∀ u∈(rdc x us).2,u≤M)
 | [],x,hx,_=>by simp[rdc,hx,ip]
 | u::us,x,hx,hu=>by
  have hu0:=hu u List.mem_cons_self;obtain⟨d1,d2,d3,d4⟩:=div_gcd hx hu0;have hd1:x / (Int.gcd x u:Int)∣x:=Int.ediv_dvd_of_dvd (Int.gcd_dvd_left ..);have hd2:u / (Int.gcd x u:Int)∣u:=Int.ediv_dvd_of_dvd (Int.gcd_dvd_right ..);have hd3:u / (Int.gcd x u:Int)≤u:=Int.le_of_dvd hu0 hd2;obtain⟨r1,r2,r3,r4,r5,r6,r7,r8⟩:=rdc_spec us (x / (Int.gcd x u:Int)) d1 (fun v hv=>hu v (List.mem_cons_of_mem _ hv));simp only[rdc];generalize rdc (x / (Int.gcd x u:Int)) us=q at *;generalize (Int.gcd x u:Int)=g at *;refine⟨r1,Int.dvd_trans r2 hd1,by simp[r3],?_,?_,?_,?_,?_⟩
  ·intro v hv
   rcases List.mem_cons.mp hv with rfl|hv
   ·exact d2
   ·exact r4 v hv
  ·simp only[ip];rw[Int.mul_left_comm,r5, ←Int.mul_assoc,Int.mul_comm u,d3,Int.mul_assoc]
  ·intro v hv
   rcases List.mem_cons.mp hv with rfl|hv
   ·exact gcd_of_dvd r2 d4
   ·exact r6 v hv
  ·intro y hy v hv
   rcases List.mem_cons.mp hv with rfl|hv
   ·exact gcd_of_dvd_right hd2 (hy u List.mem_cons_self)
   ·exact r7 y (fun w hw=>hy w (List.mem_cons_of_mem _ hw)) v hv
  ·intro M hM v hv
   rcases List.mem_cons.mp hv with rfl|hv
   ·have:=hM u List.mem_cons_self;omega
   ·exact r8 M (fun w hw=>hM w (List.mem_cons_of_mem _ hw)) v hv
theorem rdcAll_spec:∀ (os us:List Int),(∀ o∈os,0<o)→(∀ u∈us,0<u)→
  (∀ o∈(rdcAll os us).1,0<o)∧(∀ u∈(rdcAll os us).2,0<u)∧ip (rdcAll os us).1*ip us=ip os*ip (rdcAll os us).2∧(∀ o∈(rdcAll os us).1,∀ u∈(rdcAll os us).2,Int.gcd o u=1)∧(∀ y:Int,(∀ u∈us,Int.gcd y u=1)→∀ u∈(rdcAll os us).2,Int.gcd y u=1)∧(∀ M:Int,(∀ u∈us,u≤M)→∀ u∈(rdcAll os us).2,u≤M)∧(∀ M:Int,(∀ o∈os,o≤M)→∀ o∈(rdcAll os us).1,o≤M)
 | [],us,_,hu=>by
  refine⟨by simp[rdcAll],hu,by simp[rdcAll],by simp[rdcAll],fun y hy=>hy,fun M h=>h,by simp[rdcAll]⟩
 | o::os,us,ho,hu=>by
  have ho0:=ho o List.mem_cons_self;obtain⟨r1,r2,r3,r4,r5,r6,r7,r8⟩:=rdc_spec us o ho0 hu;obtain⟨s1,s2,s3,s4,s5,s6,s7⟩:=rdcAll_spec os (rdc o us).2 (fun v hv=>ho v (List.mem_cons_of_mem _ hv)) r4;have hle:(rdc o us).1≤o:=Int.le_of_dvd ho0 r2;simp only[rdcAll];generalize rdcAll os (rdc o us).2=s at *;generalize rdc o us=q at *;refine⟨?_,s2,?_,?_,?_,?_,?_⟩
  ·intro v hv
   rcases List.mem_cons.mp hv with rfl|hv
   ·exact r1
   ·exact s1 v hv
  ·simp only[ip];have e:q.1*ip s.1*ip us=(q.1*ip us)*ip s.1:=by rw[Int.mul_assoc,Int.mul_assoc,Int.mul_comm (ip s.1)]
   rw[e,r5,Int.mul_assoc,Int.mul_comm (ip q.2),s3, ←Int.mul_assoc]
  ·intro v hv u hu'
   rcases List.mem_cons.mp hv with rfl|hv
   ·exact s5 q.1 r6 u hu'
   ·exact s4 v hv u hu'
  ·intro y hy;exact s5 y (r7 y hy)
  ·intro M hM;exact s6 M (r8 M hM)
  ·intro M hM v hv
   rcases List.mem_cons.mp hv with rfl|hv
   ·have:=hM o List.mem_cons_self;omega
   ·exact s7 M (fun w hw=>hM w (List.mem_cons_of_mem _ hw)) v hv
theorem gcd_ip_right (x:Int):∀ l:List Int,(∀ u∈l,Int.gcd x u=1)→Int.gcd x (ip l)=1
 | [],_=>by simp[ip]
 |u::l,h=>by
  have h1:=h u List.mem_cons_self;have h2:=gcd_ip_right x l (fun v hv=>h v (List.mem_cons_of_mem _ hv));simp only[ip,Int.gcd,Int.natAbs_mul]at *;exact Nat.Coprime.mul_right h1 h2
theorem gcd_ip (b:List Int):∀ l:List Int,(∀ o∈l,∀ u∈b,Int.gcd o u=1)→Int.gcd (ip l) (ip b)=1
 | [],_=>by simp[ip]
 |o::l,h=>by
  have h1:=gcd_ip_right o b (h o List.mem_cons_self);have h2:=gcd_ip b l (fun v hv=>h v (List.mem_cons_of_mem _ hv));simp only[ip,Int.gcd,Int.natAbs_mul]at *;exact Nat.Coprime.mul_left h1 h2
theorem lowest_one {a b c d:Int} (ha:0<a) (hc:0<c) (h1:Int.gcd a b=1) (h2:Int.gcd c d=1) (h:a*d=c*b):a=c∧b=d:=by
 have h3:a∣c:=by
  have:a∣c*b:=⟨d,h.symm⟩;rw[← Int.gcd_eq_natAbs_left_iff_dvd]at this;rw[Int.gcd_mul_left_right_of_gcd_eq_one h1]at this;rw[← Int.gcd_eq_natAbs_left_iff_dvd];first|exact this|(rw[Int.gcd_mul_right_right_of_gcd_eq_one h1]at this;exact this)
 have h4:c∣a:=by
  have:c∣a*d:=⟨b,h⟩;rw[← Int.gcd_eq_natAbs_left_iff_dvd]at this;rw[Int.gcd_mul_left_right_of_gcd_eq_one h2]at this;rw[← Int.gcd_eq_natAbs_left_iff_dvd];exact this
 have e:a=c:=Int.dvd_antisymm (by omega) (by omega) h3 h4;subst e;exact⟨rfl,(Int.eq_of_mul_eq_mul_left (by omega) h).symm⟩
theorem rd_set {l:List Int} {p:Nat} (hp:p<l.length) (x:Int) (q:Nat):rd (l.set p x) (q:Int)=if p=q then x else rd l (q:Int):=by
 rw[rd_nat,rd_nat,List.getD_eq_getElem?_getD,List.getD_eq_getElem?_getD,List.getElem?_set]
 by_cases h:p=q
 ·subst h;simp[hp]
 ·simp [h]
def red (a b:Int):Int×Int:=(a / (Int.gcd a b:Int),b / (Int.gcd a b:Int))
theorem red_spec {a b:Int} (hb:0<b):∃ g:Int,0<g∧a=(red a b).1*g∧b=(red a b).2*g∧Int.gcd (red a b).1 (red a b).2=1∧0<(red a b).2:=by
 have hg0:0<Int.gcd a b:=Int.gcd_pos_of_ne_zero_right _ (by omega);have e1:a / (Int.gcd a b:Int)*(Int.gcd a b:Int)=a:=Int.ediv_mul_cancel (Int.gcd_dvd_left ..);have e2:b / (Int.gcd a b:Int)*(Int.gcd a b:Int)=b:=Int.ediv_mul_cancel (Int.gcd_dvd_right ..);refine⟨(Int.gcd a b:Int),by omega,e1.symm,e2.symm,Int.gcd_ediv_gcd_ediv_gcd hg0,?_⟩;unfold red
 rcases Int.lt_or_le 0 (b / (Int.gcd a b:Int))with h|h
 ·exact h
 ·have:=Int.mul_le_mul_of_nonneg_right h (show 0≤(Int.gcd a b:Int) by omega);rw[e2]at this
  omega
def smallP (p:Int×Int):Prop:=(-1000000000≤p.1∧p.1≤1000000000)∧1≤p.2∧p.2≤1000000000
instance (p:Int×Int):Decidable (smallP p):=by unfold smallP;infer_instance
theorem Index_l0 (l:List Int) (x:Int) (hl:l.length<4611686018427387904):∀ (n i:Nat),i+n=l.length→∃ r,Ev (fun k=>slices_Index_int_int.l0 k l x (l.length:Int) (i:Int)) r∧(0≤r↔x∈l.drop i)
 |0,i,h=>by
  refine⟨-1,Ev.succ (f:=fun k=>slices_Index_int_int.l0 k l x (l.length:Int) (i:Int)) ?_,?_⟩
  ·simp only[slices_Index_int_int.l0,show ¬ (i:Int)<(l.length:Int) by omega,if_false];exact Ev.some
  ·rw [show l.drop i=[]from List.drop_eq_nil_of_le (by omega)];simp
 | n +1,i,h=>by
  have hi:i<l.length:=by omega
  obtain⟨r,h1,h2⟩:=Index_l0 l x hl n (i+1) (by omega);rw[drop_rd hi]
  by_cases c:x=rd l (i:Int)
  ·refine ⟨(i:Int),Ev.succ (f:=fun k=>slices_Index_int_int.l0 k l x (l.length:Int) (i:Int)) ?_,?_⟩
   ·simp only[slices_Index_int_int.l0,show(i:Int)<(l.length:Int) by omega,show(0:Int)≤(i:Int) by omega,if_true,c];exact Ev.some
   ·constructor
    ·intro _;rw[← c];exact List.mem_cons_self
    ·intro _;omega
  ·refine ⟨r,Ev.succ (f:=fun k=>slices_Index_int_int.l0 k l x (l.length:Int) (i:Int)) ?_,?_⟩
   ·simp only[slices_Index_int_int.l0,show(i:Int)<(l.length:Int) by omega,show(0:Int)≤(i:Int) by omega,if_true,c,if_false,up (show i<4611686018427387904 by omega)];exact h1
   ·rw [h2];constructor
    ·exact List.mem_cons_of_mem _
    ·intro hm
     rcases List.mem_cons.mp hm with e|hm
     ·exact absurd e c
     ·exact hm
theorem Contains_ev (l:List Int) (x:Int) (hl:l.length<4611686018427387904):Ev (fun k=>slices_Contains_int_int.f k l x) (decide (x∈l)):=by
 unfold slices_Contains_int_int.f;obtain⟨r,h1,h2⟩:=Index_l0 l x hl l.length 0 (by omega);refine Ev.bind (f:=fun k=>slices_Index_int_int.f k l x) h1 ?_;rw[List.drop_zero]at h2;rw[show decide (r≥0)=decide (x∈l) by rw[Bool.eq_iff_iff];simp;exact h2];exact Ev.some
theorem Clone_eq (l:List Int) (h:l.length<4611686018427):slices_Clone_int_int.f l=some l:=by
 unfold slices_Clone_int_int.f;simp only[Option.bind_some,List.length_nil,List.nil_append];rw[if_pos (by omega)]
def Fs (l:List Int):Prop:=∀ x∈l,0<x∧x≤1000000000
theorem mul_le {a x:Int} (ha:0<a∧a≤1000000000) (hx:0<x∧x≤1000000000):0<a*x∧a*x≤1000000000000000000:=by
 refine⟨Int.mul_pos ha.1 hx.1,?_⟩;have:=Int.mul_le_mul ha.2 hx.2 (by omega) (by omega)
 omega
theorem ip_ge {l:List Int} (h:Fs l):1≤ip l:=by
 have:=ip_pos (l:=l) (fun x hx=>(h x hx).1)
 omega
theorem product_l0 (l:List Int) (hb:Fs l) (hl:l.length<4611686018427387904):∀ (n i:Nat) (a:Int),i+n=l.length→0<a∧a≤1000000000→Ev (fun k=>L_product.l0 k a l (l.length:Int) (i:Int)) (if a*ip (l.drop i)≤1000000000 then(a*ip (l.drop i),true)else(0,false))
 |0,i,a,h,ha=>by
  refine Ev.succ (f:=fun k=>L_product.l0 k a l (l.length:Int) (i:Int)) ?_;simp only[L_product.l0,show ¬ (i:Int)<(l.length:Int) by omega,if_false];rw[show l.drop i=[]from List.drop_eq_nil_of_le (by omega)];simp only[ip,Int.mul_one];rw[if_pos ha.2];exact Ev.some
 | n+1,i,a,h,ha=>by
  refine Ev.succ (f:=fun k=>L_product.l0 k a l (l.length:Int) (i:Int)) ?_;have hi:i<l.length:=by omega
  have hx:=hb _ (getD_mem hi);have hr:=ip_ge (l:=l.drop (i+1)) (fun y hy=>hb y (List.mem_of_mem_drop hy));have e:a*ip (l.drop i)=a*l.getD i 0*ip (l.drop (i+1)):=by rw[drop_getD 0 hi];simp only[ip];rw[Int.mul_assoc]
  rw[e];simp only[L_product.l0,show(i:Int)<(l.length:Int) by omega,show(0:Int)≤(i:Int) by omega,if_true,up (show i<4611686018427387904 by omega),rd_nat];generalize l.getD i 0=x at *;have hm:=mul_le ha hx;rw[w64 (n:=a*x) (by omega)]
  by_cases c:a*x>1000000000
  ·simp only[c,if_true];have:a*x≤a*x*ip (l.drop (i+1)):=by
    have:=Int.mul_le_mul_of_nonneg_left (a:=1) (b:=ip (l.drop (i+1))) (c:=a*x) hr (by omega)
    omega
   rw[if_neg (by omega)];exact Ev.some
  ·simp only[c,if_false];exact product_l0 l hb hl n (i+1) (a*x) (by omega) ⟨hm.1,by omega⟩
theorem product_ev (l:List Int) (hb:Fs l) (hl:l.length<4611686018427387904):Ev (fun k=>L_product.f k l) (if ip l≤1000000000 then(ip l,true)else(0,false)):=by
 have:=product_l0 l hb hl l.length 0 1 (by omega) (by omega);rw[List.drop_zero,Int.one_mul]at this;exact this
def fin_ (o u:List Int) (k:Nat):Option (Int×Int×Bool):=(L_product.f k o).bind fun bt676=>((L_product.f k u).bind fun bt678=>(if bt676.2=true then(some (bt676.1,bt678.1,bt678.2))else(some (bt676.1,bt678.1,false))))
theorem rdc_len:∀ (us:List Int) (x:Int),(rdc x us).2.length=us.length
 | [],x=>rfl
 |u::us,x=>by simp[rdc,rdc_len us]
theorem value_l1 (u0:Int) (r:Int×Int×Bool) (i:Nat) (hi0:i<4611686018427387904):∀ (n j:Nat) (o u:List Int),j+n=u.length→u.length<1000→(hi:i<o.length)→(0<rd o (i:Int)∧rd o (i:Int)≤1000000000)→Fs (u.drop j)→Ev (fun k=>L_factors_value.l0 k (o.set i (rdc (rd o (i:Int)) (u.drop j)).1) (u.take j++(rdc (rd o (i:Int)) (u.drop j)).2) u0 ((i+1:Nat):Int)) r→Ev (fun k=>L_factors_value.l1 k o u (i:Int) u0 (i:Int) (u.length:Int) (j:Int)) r
 | 0,j,o,u,h,hu,hi,hx,hF,H=>by
  refine Ev.succ (f:=fun k=>L_factors_value.l1 k o u (i:Int) u0 (i:Int) (u.length:Int) (j:Int)) ?_;rw[show u.drop j=[]from List.drop_eq_nil_of_le (by omega),show u.take j=u from List.take_of_length_le (by omega)]at H;simp only[rdc,List.append_nil]at H;have e:o.set i (rd o (i:Int))=o:=by
   rw[rd_nat,List.getD_eq_getElem?_getD,List.getElem?_eq_getElem hi]
   simp
  rw[e]at H;simp only[L_factors_value.l1,show ¬ (j:Int)<(u.length:Int) by omega,if_false,up hi0];exact H
 | n+1,j,o,u,h,hu,hi,hx,hF,H=>by
  refine Ev.succ (f:=fun k=>L_factors_value.l1 k o u (i:Int) u0 (i:Int) (u.length:Int) (j:Int)) ?_;have hj:j<u.length:=by omega
  rw[drop_rd hj]at H hF;have hy:=hF _ List.mem_cons_self;have hF2:Fs (u.drop (j+1)):=fun x hx=>hF x (List.mem_cons_of_mem _ hx);simp only[L_factors_value.l1,show(j:Int)<(u.length:Int) by omega,show(0:Int)≤(j:Int) by omega,show(0:Int)≤(i:Int) by omega,show(i:Int)<(o.length:Int) by omega,if_true,up (show j<4611686018427387904 by omega)];refine Ev.bind (divisor_pos (by omega) (by omega)) ?_;have hg:=gcd_pos2 (x:=rd o (i:Int)) (u:=rd u (j:Int)) hx.1;obtain⟨d1,d2,_,_⟩:=div_gcd hx.1 hy.1;have hd1:rd o (i:Int) / (Int.gcd (rd o (i:Int)) (rd u (j:Int)):Int)≤rd o (i:Int):=Int.ediv_le_self _ (by omega);have hd2:rd u (j:Int) / (Int.gcd (rd o (i:Int)) (rd u (j:Int)):Int)≤rd u (j:Int):=Int.ediv_le_self _ (by omega);have t1:Int.tdiv (rd o (i:Int)) (Int.gcd (rd o (i:Int)) (rd u (j:Int)):Int)=rd o (i:Int) / (Int.gcd (rd o (i:Int)) (rd u (j:Int)):Int):=Int.tdiv_eq_ediv_of_nonneg (by omega);have t2:Int.tdiv (rd u (j:Int)) (Int.gcd (rd o (i:Int)) (rd u (j:Int)):Int)=rd u (j:Int) / (Int.gcd (rd o (i:Int)) (rd u (j:Int)):Int):=Int.tdiv_eq_ediv_of_nonneg (by omega);simp only[show ¬ (Int.gcd (rd o (i:Int)) (rd u (j:Int)):Int)=0 by omega,if_false,t1,t2,Int.toNat_natCast];rw[w64 (n:=rd o (i:Int) / (Int.gcd (rd o (i:Int)) (rd u (j:Int)):Int)) (by omega),w64 (n:=rd u (j:Int) / (Int.gcd (rd o (i:Int)) (rd u (j:Int)):Int)) (by omega)];simp only[rdc]at H;generalize rd o (i:Int) / (Int.gcd (rd o (i:Int)) (rd u (j:Int)):Int)=a at *;generalize rd u (j:Int) / (Int.gcd (rd o (i:Int)) (rd u (j:Int)):Int)=b at *;have e1:rd (o.set i a) (i:Int)=a:=by rw[rd_set hi,if_pos rfl]
  have e2:(u.set j b).drop (j+1)=u.drop (j+1):=by rw[List.drop_set_of_lt (by omega)]
  have e3:(u.set j b).take (j+1)=u.take j++ [b]:=by
   rw[List.take_succ_eq_append_getElem (show j<(u.set j b).length by rw[List.length_set];omega),List.getElem_set_self,List.take_set_of_le (Nat.le_refl _)]
  have ih:=value_l1 u0 r i hi0 n (j+1) (o.set i a) (u.set j b) (by rw[List.length_set];omega) (by rw[List.length_set];omega) (by rw[List.length_set];omega) (by rw[e1];exact⟨d1,by omega⟩) (by rw[e2];exact hF2);rw[e1,e2,e3,List.set_set,List.append_assoc,List.length_set]at ih;exact ih H
theorem value_l0 (r:Int×Int×Bool):∀ (n i:Nat) (o u:List Int),i+n=o.length→o.length<1000→u.length<1000→Fs (o.drop i)→Fs u→Ev (fin_ (o.take i++(rdcAll (o.drop i) u).1) (rdcAll (o.drop i) u).2) r→Ev (fun k=>L_factors_value.l0 k o u (o.length:Int) (i:Int)) r
 |0,i,o,u,h,ho,hu,hFo,hFu,H=>by
  refine Ev.succ (f:=fun k=>L_factors_value.l0 k o u (o.length:Int) (i:Int)) ?_;rw[show o.drop i=[]from List.drop_eq_nil_of_le (by omega),show o.take i=o from List.take_of_length_le (by omega)]at H;simp only[rdcAll,List.append_nil]at H;simp only[L_factors_value.l0,show ¬ (i:Int)<(o.length:Int) by omega,if_false];exact H
 | n+1,i,o,u,h,ho,hu,hFo,hFu,H=>by
  refine Ev.succ (f:=fun k=>L_factors_value.l0 k o u (o.length:Int) (i:Int)) ?_;have hi:i<o.length:=by omega
  rw[drop_rd hi]at H hFo;have hx:=hFo _ List.mem_cons_self;have hF2:Fs (o.drop (i+1)):=fun x hx=>hFo x (List.mem_cons_of_mem _ hx);simp only[L_factors_value.l0,show(i:Int)<(o.length:Int) by omega,if_true];simp only[rdcAll]at H;have e0:((o.length:Nat):Int)=(o.length:Int):=rfl;refine value_l1 (o.length:Int) r i (by omega) u.length 0 o u (by omega) hu hi hx (by simpa using hFu) ?_;rw[List.drop_zero,List.take_zero,List.nil_append];obtain⟨s1,s2,s3,s4,s5,s6,s7,s8⟩:=rdc_spec u (rd o (i:Int)) hx.1 (fun v hv=>(hFu v hv).1);have hF3:Fs (rdc (rd o (i:Int)) u).2:=fun v hv=>⟨s4 v hv,s8 1000000000 (fun w hw=>(hFu w hw).2) v hv⟩;generalize rdc (rd o (i:Int)) u=q at *;have e2:(o.set i q.1).drop (i+1)=o.drop (i+1):=by rw[List.drop_set_of_lt (by omega)]
  have e3:(o.set i q.1).take (i+1)=o.take i++ [q.1]:=by
   rw[List.take_succ_eq_append_getElem (show i<(o.set i q.1).length by rw[List.length_set];omega),List.getElem_set_self,List.take_set_of_le (Nat.le_refl _)]
  have ih:=value_l0 r n (i+1) (o.set i q.1) q.2 (by rw[List.length_set];omega) (by rw[List.length_set];omega) (by omega) (by rw[e2];exact hF2) hF3;rw[e2,e3,List.append_assoc,List.length_set]at ih;exact ih H
theorem ip_zero:∀ {l:List Int},0∈l→ip l=0
 | [],h=>by cases h
 |x::r,h=>by
  simp only[ip]
  rcases List.mem_cons.mp h with e|h
  ·rw [← e,Int.zero_mul]
  ·rw [ip_zero h,Int.mul_zero]
theorem red_zero {b:Int} (hb:0<b):red 0 b=(0,1):=by
 unfold red;rw[Int.gcd_zero_left];rw[Int.zero_ediv]
 congr 1
 rw[show ((b.natAbs:Nat):Int)=b by omega];exact Int.ediv_self (by omega)
theorem value_ev (o u:List Int) (ho:o.length<1000) (hu:u.length<1000) (hFo:∀ x∈o,0≤x∧x≤1000000000) (hFu:Fs u):∃ a b,Ev (fun k=>L_factors_value.f k o u) (if smallP (red (ip o) (ip u))then((red (ip o) (ip u)).1,(red (ip o) (ip u)).2,true)else(a,b,false)):=by
  have hu0:=ip_ge hFu;have key:∃ a b,Ev (fun k=>(slices_Contains_int_int.f k o 0).bind fun t675=>(if t675=true then(some (0,1,true))else(L_factors_value.l0 k o u (o.length:Int) 0))) (if smallP (red (ip o) (ip u))then((red (ip o) (ip u)).1,(red (ip o) (ip u)).2,true)else(a,b,false)):=by
    by_cases h0:(0:Int)∈o
    · refine⟨0,0,?_⟩;refine Ev.bind (Contains_ev o 0 (by omega)) ?_;simp only[h0,decide_true,if_true];rw[ip_zero h0,red_zero (by omega),if_pos (by unfold smallP;simp)];exact Ev.some
    · have hFo2:Fs o:=fun x hx=>⟨by have:=hFo x hx;have:x≠0:=fun e=>h0 (e▸hx);omega,(hFo x hx).2⟩;obtain⟨s1,s2,s3,s4,s5,s6,s7⟩:=rdcAll_spec o u (fun x hx=>(hFo2 x hx).1) (fun x hx=>(hFu x hx).1);have F1:Fs (rdcAll o u).1:=fun x hx=>⟨s1 x hx,s7 1000000000 (fun y hy=>(hFo2 y hy).2) x hx⟩;have F2:Fs (rdcAll o u).2:=fun x hx=>⟨s2 x hx,s6 1000000000 (fun y hy=>(hFu y hy).2) x hx⟩;have hg:=gcd_ip _ _ s4;have p1:=ip_ge F1;have p2:=ip_ge F2;have o0:=ip_ge hFo2;obtain⟨g,g1,g2,g3,g4,g5⟩:=red_spec (a:=ip o) (b:=ip u) (by omega);have g6:0<(red (ip o) (ip u)).1:=by
        have:0<(red (ip o) (ip u)).1*g:=by omega
        exact Int.pos_of_mul_pos_left this g1
      have hcross:ip (rdcAll o u).1*(red (ip o) (ip u)).2=(red (ip o) (ip u)).1*ip (rdcAll o u).2:=by
        have:ip (rdcAll o u).1*((red (ip o) (ip u)).2*g)=(red (ip o) (ip u)).1*g*ip (rdcAll o u).2:=by rw[← g3, ←g2];exact s3
        have e2:(ip (rdcAll o u).1*(red (ip o) (ip u)).2)*g=((red (ip o) (ip u)).1*ip (rdcAll o u).2)*g:=by
          rw[Int.mul_assoc,this,Int.mul_assoc,Int.mul_assoc,Int.mul_comm g]
        exact Int.eq_of_mul_eq_mul_right (by omega) e2
      obtain⟨q1,q2⟩:=lowest_one (by omega) g6 hg g4 hcross;have hlen:∀ (os us:List Int),(rdcAll os us).1.length=os.length∧(rdcAll os us).2.length=us.length:=by
        intro os
        induction os with
        |nil=>intro us;exact⟨rfl,rfl⟩
        |cons x os ih=>intro us;simp only[rdcAll,List.length_cons];have:=ih (rdc x us).2;rw[rdc_len]at this;exact⟨by omega,by omega⟩
      have hl:=hlen o u;have eR:red (ip o) (ip u)=(ip (rdcAll o u).1,ip (rdcAll o u).2):=Prod.ext q1.symm q2.symm;rw[eR];refine⟨if ip (rdcAll o u).1≤1000000000 then ip (rdcAll o u).1 else 0,if ip (rdcAll o u).2≤1000000000 then ip (rdcAll o u).2 else 0,?_⟩;refine Ev.bind (Contains_ev o 0 (by omega)) ?_;simp only[h0,decide_false,Bool.false_eq_true,if_false];refine value_l0 _ o.length 0 o u (by omega) ho hu (by simpa using hFo2) hFu ?_;rw[List.drop_zero,List.take_zero,List.nil_append];unfold fin_;refine Ev.bind (product_ev _ F1 (by omega)) ?_;refine Ev.bind (product_ev _ F2 (by omega)) ?_;generalize ip (rdcAll o u).1=A at *;generalize ip (rdcAll o u).2=B at*
      by_cases c1:A≤1000000000
      · by_cases c2:B≤1000000000
        · rw[if_pos (show smallP (A,B)from⟨⟨by simp only;omega,c1⟩,p2,c2⟩)];simp only[c1,c2,if_true];exact Ev.some
        · rw[if_neg (fun h:smallP (A,B)=>c2 h.2.2)];simp only[c1,c2,if_true,if_false];exact Ev.some
      · rw[if_neg (fun h:smallP (A,B)=>c1 h.1.2)];simp only[c1,if_false,Bool.false_eq_true]
        by_cases c2:B≤1000000000
        · simp only[c2,if_true];exact Ev.some
        · simp only[c2,if_false];exact Ev.some
  obtain⟨a,b,h⟩:=key;refine⟨a,b,?_⟩;unfold L_factors_value.f;simp only[Clone_eq o (by omega),Clone_eq u (by omega),Option.bind_some];exact h
theorem times_eq (o u:List Int) (a b:Int) (ho:o.length<1000) (hu:u.length<1000):L_factors_times.f o u a b=some (o++ [a],u++ [b]):=by
 unfold L_factors_times.f;rw[if_pos (by omega),if_pos (by omega)]
theorem rd24_drop {l:List S24} {i:Nat} (h:i<l.length):l.drop i=rd_T24 l (i:Int)::l.drop (i+1):=by
 unfold rd_T24;exact drop_getD z24 h
theorem rd24_mem {l:List S24} {i:Nat} (h:i<l.length):rd_T24 l (i:Int)∈l:=by
 have:rd_T24 l (i:Int)∈l.drop i:=by rw[rd24_drop h];exact List.mem_cons_self
 exact List.mem_of_mem_drop this
def shE (f:S24):Int:=ptE f.f0 f.f1
def okS (f:S24):Prop:=ptE f.f0 f.f1=0
def sgs:List S24→Int→Int→Option (List S24)
 | [],_,_=>some []
 |f::r,a,b=>if smallP (red (a*f.f0) (b*f.f1))then(sgs r (a*(f.f1-f.f0)) (b*f.f1)).map (fun t=>(⟨(red (a*f.f0) (b*f.f1)).1,(red (a*f.f0) (b*f.f1)).2⟩:S24)::t)else none
def sgR (acc:List S24):Option (List S24)→List S24×Int
 |some t=>(acc++t,0)
 |none=>([],8)
theorem ip_snoc (l:List Int) (x:Int):ip (l++ [x])=ip l*x:=by rw[ip_append];simp[ip]
theorem Att_l0 (sh:List S24) (hs:∀ f∈sh,okS f) (hl:sh.length≤24):∀ (n i:Nat) (acc:List S24) (o u:List Int),i+n=sh.length→acc.length=i→o.length≤i+1→u.length≤i→(∀ x∈o,0≤x∧x≤1000000000)→Fs u→Ev (fun k=>L_Attenuated.l0 k acc sh (sh.length:Int) (i:Int) o u) (sgR acc (sgs (sh.drop i) (ip o) (ip u)))
  | 0,i,acc,o,u,h,ha,hol,hul,ho,hu=>by
    refine Ev.succ (f:=fun k=>L_Attenuated.l0 k acc sh (sh.length:Int) (i:Int) o u) ?_;simp only[L_Attenuated.l0,show ¬ (i:Int)<(sh.length:Int) by omega,if_false];rw[show sh.drop i=[]from List.drop_eq_nil_of_le (by omega)];simp only[sgs,sgR,List.append_nil];exact Ev.some
  | n + 1,i,acc,o,u,h,ha,hol,hul,ho,hu=>by
    refine Ev.succ (f:=fun k=>L_Attenuated.l0 k acc sh (sh.length:Int) (i:Int) o u) ?_;have hi:i<sh.length:=by omega
    have hf:=ptE_ok (hs _ (rd24_mem hi));rw[rd24_drop hi];simp only[L_Attenuated.l0,show(i:Int)<(sh.length:Int) by omega,show(0:Int)≤(i:Int) by omega,if_true,up (show i<4611686018427387904 by omega),show acc.length<8796093022208 by omega];generalize rd_T24 sh (i:Int)=f at *;rw[w64 (n:=f.f1-f.f0) (by omega)];simp only[times_eq o u _ _ (show o.length<1000 by omega) (show u.length<1000 by omega),Option.bind_some];have hu2:Fs (u++ [f.f1]):=fun x hx=>by
      rcases List.mem_append.mp hx with hx|hx
      · exact hu x hx
      · rw[List.mem_singleton]at hx;subst hx;omega
    obtain⟨a,b,hv⟩:=value_ev (o++ [f.f0]) (u++ [f.f1]) (by simp;omega) (by simp;omega) (fun x hx=>by
      rcases List.mem_append.mp hx with hx|hx
      · exact ho x hx
      · rw[List.mem_singleton]at hx;subst hx;omega) hu2
    refine Ev.bind hv ?_;rw[ip_snoc,ip_snoc];simp only[sgs]
    by_cases c:smallP (red (ip o*f.f0) (ip u*f.f1))
    · rw[if_pos c,if_pos c];simp only[if_true];have ih:=Att_l0 sh hs hl n (i+1) (acc++ [(⟨(red (ip o*f.f0) (ip u*f.f1)).1,(red (ip o*f.f0) (ip u*f.f1)).2⟩:S24)]) (o++ [f.f1-f.f0]) (u++ [f.f1]) (by omega) (by simp[ha]) (by simp;omega) (by simp;omega) (fun x hx=>by
        rcases List.mem_append.mp hx with hx|hx
        · exact ho x hx
        · rw[List.mem_singleton]at hx;subst hx;omega) hu2
      rw[ip_snoc,ip_snoc]at ih
      cases e:sgs (sh.drop (i+1)) (ip o*(f.f1-f.f0)) (ip u*f.f1)with
      |none=>rw[e]at ih;exact ih
      |some t=>rw[e]at ih;simp only[sgR,List.append_assoc,List.singleton_append]at ih;exact ih
    · rw[if_neg c,if_neg c];simp only[Bool.false_eq_true,if_false];exact Ev.some
def aE (sh:List S24) (c:Int):Int:=if(if sh.length=0 then 10 else if 24<sh.length then 8 else(chk shE sh 0).2)=0 then cE c else(if sh.length=0 then 10 else if 24<sh.length then 8 else(chk shE sh 0).2)
theorem wfS {sh:List S24} (h:∀ f∈sh,(-9223372036854775808≤f.f0∧f.f0≤9223372036854775807)∧(-9223372036854775808≤f.f1∧f.f1≤9223372036854775807)) {i:Nat} (hi:i<sh.length):(-9223372036854775808≤(rd_T24 sh (i:Int)).f0∧(rd_T24 sh (i:Int)).f0≤9223372036854775807)∧(-9223372036854775808≤(rd_T24 sh (i:Int)).f1∧(rd_T24 sh (i:Int)).f1≤9223372036854775807):=h _ (rd24_mem hi)
theorem eachS_l0 (sh:List S24) (hl:sh.length<4611686018427387904) (hw:∀ f∈sh,(-9223372036854775808≤f.f0∧f.f0≤9223372036854775807)∧(-9223372036854775808≤f.f1∧f.f1≤9223372036854775807)):∀ (n i:Nat),i+n=sh.length→Ev (fun k=>api_Frac_partErr.l0 k sh (sh.length:Int) (i:Int)) (chk shE (sh.drop i) i)
 |0,i,h=>by
  refine Ev.succ (f:=fun k=>api_Frac_partErr.l0 k sh (sh.length:Int) (i:Int)) ?_;simp only[api_Frac_partErr.l0,show ¬ (i:Int)<(sh.length:Int) by omega,if_false];rw[show sh.drop i=[]from List.drop_eq_nil_of_le (by omega)];exact Ev.some
 |n+1,i,h=>by
  refine Ev.succ (f:=fun k=>api_Frac_partErr.l0 k sh (sh.length:Int) (i:Int)) ?_;have hi:i<sh.length:=by omega
  have hx:=wfS hw hi;rw[rd24_drop hi];simp only[api_Frac_partErr.l0,show(i:Int)<(sh.length:Int) by omega,show(0:Int)≤(i:Int) by omega,if_true,up (show i<4611686018427387904 by omega)];refine Ev.bind (partErr_ev hx.1 hx.2) ?_;unfold chk
  show Ev _ (if shE (rd_T24 sh (i:Int))=0 then _ else _)
  by_cases e:shE (rd_T24 sh (i:Int))=0
  ·have e2:ptE (rd_T24 sh (i:Int)).f0 (rd_T24 sh (i:Int)).f1=0:=e;simp only[e,e2,if_true];exact eachS_l0 sh hl hw n (i+1) (by omega)
  ·have e2:¬ ptE (rd_T24 sh (i:Int)).f0 (rd_T24 sh (i:Int)).f1=0:=e;simp only[e,e2,if_false];exact Ev.some
theorem Attenuated_ev (sh:List S24) (c:Int) (hl:sh.length<4611686018427387904) (hw:∀ f∈sh,(-9223372036854775808≤f.f0∧f.f0≤9223372036854775807)∧(-9223372036854775808≤f.f1∧f.f1≤9223372036854775807)):Ev (fun k=>L_Attenuated.f k sh c) (if aE sh c=0 then sgR [] (sgs sh c 1)else([],aE sh c)):=by
 unfold L_Attenuated.f;simp only[unless_eq,Option.bind_some];refine Ev.bind (first_ev _ (by simp)) ?_;rw[fnz2]
 by_cases h1:sh.length=0
 ·have e:aE sh c=10:=by unfold aE;rw[if_pos h1,if_neg (by decide)]
  rw[e];simp only[h1,show ¬ ((0:Nat):Int)>0 by omega,decide_false,Bool.false_eq_true,if_false,show ¬ (10:Int)=0 by omega];exact Ev.some
 ·by_cases h2:24<sh.length
  ·have e:aE sh c=8:=by unfold aE;rw[if_neg h1,if_pos h2,if_neg (by decide)]
   rw[e];simp only[show (sh.length:Int)>0 by omega,show ¬ (sh.length:Int)≤24 by omega,decide_false,decide_true,Bool.false_eq_true,if_true,if_false,show ¬ (8:Int)=0 by omega];exact Ev.some
  ·have e:aE sh c=if(chk shE sh 0).2=0 then cE c else(chk shE sh 0).2:=by unfold aE;rw[if_neg h1,if_neg h2]
   rw[e];simp only[show (sh.length:Int)>0 by omega,show(sh.length:Int)≤24 by omega,decide_true,if_true];have h3:=eachS_l0 sh hl hw sh.length 0 (by omega);rw[List.drop_zero]at h3;refine Ev.bind (f:=fun k=>api_Frac_partErr.f k sh) h3 ?_;simp only[constantErr_eq,Option.bind_some];refine Ev.bind (first_ev _ (by simp)) ?_;rw[fnz2];generalize hu:(if(chk shE sh 0).2=0 then cE c else(chk shE sh 0).2)=v at*
   by_cases h:v=0
   ·rw [h]at hu;simp only[h,if_true];have hk:(chk shE sh 0).2=0:=by split at hu<;>assumption
    rw[if_pos hk]at hu;have hc:=cE_ok hu;have:=Att_l0 sh (fun f hf=>chk_all hk f hf) (by omega) sh.length 0 [] [c] [] (by omega) rfl (by simp) (by simp) (fun x hx=>by rw[List.mem_singleton]at hx;subst hx;omega) (fun x hx=>by cases hx);simp only[ip,Int.mul_one,List.drop_zero]at this;exact this
   ·simp only[h,if_false];exact Ev.some
theorem awake_ev:Ev (fun k=>Lw_awake.f k) true:=
 Ev.of_mono (k:=1500) (fun k=>Lw_awake.mono k) (by kernel_rfl)
theorem fr_spec {x c:Int} (hx:0≤x) (hc:0<c):∃ g:Int,0<g∧x=(fr x c).f0*g∧c=(fr x c).f1*g∧Int.gcd (fr x c).f0 (fr x c).f1=1∧0≤(fr x c).f0∧0<(fr x c).f1:=by
 have hg:=gcd_pos (x:=x) hc;have e1:(fr x c).f0=x / (Int.gcd x c:Int):=Int.tdiv_eq_ediv_of_nonneg hx;have e2:(fr x c).f1=c / (Int.gcd x c:Int):=Int.tdiv_eq_ediv_of_nonneg (by omega);have h1:x / (Int.gcd x c:Int)*(Int.gcd x c:Int)=x:=Int.ediv_mul_cancel (Int.gcd_dvd_left ..);have h2:c / (Int.gcd x c:Int)*(Int.gcd x c:Int)=c:=Int.ediv_mul_cancel (Int.gcd_dvd_right ..);have h3:=Int.gcd_ediv_gcd_ediv_gcd_of_ne_zero_right (n:=x) (m:=c) (by omega);rw[← e1]at h1;rw[← e2]at h2;rw[← e1, ←e2]at h3;refine⟨(Int.gcd x c:Int),by omega,h1.symm,h2.symm,h3,?_,?_⟩
 ·rw [e1];exact Int.ediv_nonneg hx (by omega)
 ·have:0<(fr x c).f1*(Int.gcd x c:Int):=by omega
  exact Int.pos_of_mul_pos_left this (by omega)
theorem fr_le {x c:Int} (hx:0≤x) (hc:0<c):(fr x c).f0≤x∧(fr x c).f1≤c:=by
 obtain⟨g,g1,g2,g3,g4,g5,g6⟩:=fr_spec hx hc;have h1:(fr x c).f0*1≤(fr x c).f0*g:=Int.mul_le_mul_of_nonneg_left (by omega) g5;have h2:(fr x c).f1*1≤(fr x c).f1*g:=Int.mul_le_mul_of_nonneg_left (by omega) (by omega)
 omega
theorem fr_part {x c:Int} (hx:0≤x) (hc:0<c∧c≤1000000000) (h:x≤c):ptE (fr x c).f0 (fr x c).f1=0:=by
 obtain⟨g,g1,g2,g3,g4,g5,g6⟩:=fr_spec hx hc.1;have hl:=fr_le hx hc.1;have h2:(fr x c).f0≤(fr x c).f1:=by
  have:(fr x c).f0*g≤(fr x c).f1*g:=by omega
  exact Int.le_of_mul_le_mul_right this g1
 unfold ptE;rw[if_pos ⟨g6,g4⟩,if_pos ⟨⟨g5,h2⟩,by omega⟩]
theorem fr_cmp {x a b:Int} (hx:0≤x∧x≤10000) (ha:0<a∧a≤4000000) (hb:0<b) (h:b≤a):Bs_Cmp.f (fr x a).f0 (fr x a).f1 (fr x b).f0 (fr x b).f1=some (-1)∨Bs_Cmp.f (fr x a).f0 (fr x a).f1 (fr x b).f0 (fr x b).f1=some 0:=by
 obtain⟨g,g1,g2,g3,g4,g5,g6⟩:=fr_spec hx.1 ha.1;obtain⟨k,k1,k2,k3,k4,k5,k6⟩:=fr_spec (x:=x) hx.1 hb;have l1:=fr_le hx.1 ha.1;have l2:=fr_le (x:=x) hx.1 hb;have key:(fr x a).f0*(fr x b).f1≤(fr x b).f0*(fr x a).f1:=by
  have h1:((fr x a).f0*(fr x b).f1)*(g*k)≤((fr x b).f0*(fr x a).f1)*(g*k):=by
   have e1:((fr x a).f0*(fr x b).f1)*(g*k)=((fr x a).f0*g)*((fr x b).f1*k):=by rw[Int.mul_assoc,Int.mul_assoc,Int.mul_left_comm (fr x b).f1]
   have e2:((fr x b).f0*(fr x a).f1)*(g*k)=((fr x b).f0*k)*((fr x a).f1*g):=by rw[Int.mul_assoc,Int.mul_assoc,Int.mul_comm g k,Int.mul_left_comm (fr x a).f1]
   rw[e1,e2, ←g2, ←k2, ←g3, ←k3];exact Int.mul_le_mul_of_nonneg_left h hx.1
  exact Int.le_of_mul_le_mul_right h1 (Int.mul_pos g1 k1)
 have p1:0≤(fr x a).f0*(fr x b).f1∧(fr x a).f0*(fr x b).f1≤40000000000:=by
  refine⟨Int.mul_nonneg g5 (by omega),?_⟩;have:=Int.mul_le_mul (a:=(fr x a).f0) (c:=10000) (b:=(fr x b).f1) (d:=4000000) (by omega) (by omega) (by omega) (by omega)
  omega
 have p2:0≤(fr x b).f0*(fr x a).f1∧(fr x b).f0*(fr x a).f1≤40000000000:=by
  refine⟨Int.mul_nonneg k5 (by omega),?_⟩;have:=Int.mul_le_mul (a:=(fr x b).f0) (c:=10000) (b:=(fr x a).f1) (d:=4000000) (by omega) (by omega) (by omega) (by omega)
  omega
 unfold Bs_Cmp.f;rw[w64 (by omega),w64 (by omega)]
 by_cases c:(fr x a).f0*(fr x b).f1<(fr x b).f0*(fr x a).f1
 ·left;rw[if_pos c]
 ·right;rw[if_neg c,if_neg (by omega)]
theorem brk_more:∀ (l:List Int) (c d:Int),0≤d→brk l c=0→brk l (c+d)=0
 | [],c,d,hd,h=>by unfold brk at h ⊢;split at h;exact absurd h (by simp);rw[if_neg (by omega)]
 | x::r,c,d,hd,h=>by
  unfold brk at h ⊢
  split at h
  ·exact absurd h (by simp)
  ·rename_i hc
   rw[if_neg (by omega),show c+d-x=(c-x)+d by omega];exact brk_more r _ d hd h
theorem shs_get:∀ (l:List Int) (c:Int) (i:Nat),i<l.length→(shs l c).getD i z24=fr (l.getD i 0) (c-sm (l.take i))
 | [],c,i,h=>by simp at h
 |x::r,c,0,h=>by simp[shs,sm]
 |x::r,c,i+1,h=>by
  simp only[shs,List.getD_cons_succ,List.take_succ_cons,sm];rw[shs_get r (c-x) i (by simpa using h)]
  congr 1;omega
theorem shs_rd {l:List Int} {c:Int} {i:Nat} (h:i<l.length):rd_T24 (shs l c) (i:Int)=fr (rd l (i:Int)) (c-sm (l.take i)):=by
 unfold rd_T24;rw[Int.toNat_natCast,shs_get l c i h,rd_nat]
theorem brk_at:∀ (l:List Int) (c:Int) (i:Nat),brk l c=0→(∀ x∈l,0≤x∧x≤10000)→i<l.length→0<c-sm (l.take i)∧rd l (i:Int)≤c-sm (l.take i)
 | [],c,i,_,_,h=>by simp at h
 | x::r,c,0,h,hb,_=>by
  unfold brk at h
  split at h
  ·exact absurd h (by simp)
  ·rename_i hc
   have h2:0≤c-x:=by
    cases r with
    |nil=>unfold brk at h;split at h;exact absurd h (by simp);omega
    |cons y r=>unfold brk at h;split at h;exact absurd h (by simp);omega
   refine⟨by simp[sm];omega,?_⟩;rw[rd_nat];simp[sm];omega
 | x::r,c,i+1,h,hb,hi=>by
  unfold brk at h
  split at h
  ·exact absurd h (by simp)
  ·have:=brk_at r (c-x) i h (fun y hy=>hb y (List.mem_cons_of_mem _ hy)) (by simpa using hi);rw[rd_nat]at this ⊢;simp only[List.take_succ_cons,sm,List.getD_cons_succ]
   omega
def sps:List S24→List S24→List S74
 |a::x,b::y=>⟨a,b⟩::sps x y
 |_,_=> []
theorem sps_len:∀ (x y:List S24),x.length=y.length→(sps x y).length=x.length
 | [],[],_=>rfl
 |a::x,b::y,h=>by simp[sps,sps_len x y (by simpa using h)]
theorem sps_get:∀ (x y:List S24) (i:Nat),i<x.length→x.length=y.length→(sps x y).getD i z74=⟨x.getD i z24,y.getD i z24⟩
 | [],_,i,h,_=>by simp at h
 |a::x,b::y,0,h,_=>rfl
 |a::x,b::y,i+1,h,e=>by
  simp only[sps,List.getD_cons_succ];exact sps_get x y i (by simpa using h) (by simpa using e)
theorem sps_rd {x y:List S24} {i:Nat} (h:i<x.length) (e:x.length=y.length):rd_T74 (sps x y) (i:Int)=⟨rd_T24 x (i:Int),rd_T24 y (i:Int)⟩:=by
 unfold rd_T74 rd_T24;rw[Int.toNat_natCast,sps_get x y i h e]
theorem UndoneIn_l0 (g s:List S24) (e:s.length=g.length) (hl:s.length≤30):∀ (n i:Nat) (acc:List S74),i+n=s.length→acc.length=i→Ev (fun k=>L_UndoneIn.l0 k g acc s (s.length:Int) (i:Int)) (acc++sps (s.drop i) (g.drop i),0)
 |0,i,acc,h,ha=>by
  refine Ev.succ (f:=fun k=>L_UndoneIn.l0 k g acc s (s.length:Int) (i:Int)) ?_;simp only[L_UndoneIn.l0,show ¬ (i:Int)<(s.length:Int) by omega,if_false];rw[show s.drop i=[]from List.drop_eq_nil_of_le (by omega)];simp only[sps,List.append_nil];exact Ev.some
 |n+1,i,acc,h,ha=>by
  refine Ev.succ (f:=fun k=>L_UndoneIn.l0 k g acc s (s.length:Int) (i:Int)) ?_;have hi:i<s.length:=by omega
  rw[rd24_drop hi,rd24_drop (show i<g.length by omega)];simp only[L_UndoneIn.l0,show(i:Int)<(s.length:Int) by omega,show(0:Int)≤(i:Int) by omega,show(i:Int)<(g.length:Int) by omega,if_true,up (show i<4611686018427387904 by omega),show acc.length<4398046511104 by omega,sps];have:=UndoneIn_l0 g s e hl n (i+1) (acc++ [(⟨rd_T24 s (i:Int),rd_T24 g (i:Int)⟩:S74)]) (by omega) (by simp[ha]);rw[List.append_assoc]at this;exact this
def uE (l:List Int) (a b:Int):Int:=if(pE l).2=0 then(if cE a=0 then(if cE b=0 then(if a≤b then 0 else 9)else cE b)else cE a)else(pE l).2
theorem UndoneIn_ev (l:List Int) (a b:Int) (hl:l.length<4611686018427387904):Ev (fun k=>L_UndoneIn.f k l a b) (if uE l a b=0 then(if brk l a=0 then(sps (shs l b) (shs l a),0)else([],20))else([],uE l a b)):=by
 unfold L_UndoneIn.f;refine Ev.bind (open_ev l hl) ?_;simp only[constantErr_eq,unless_eq,Option.bind_some,decide_eq_true_eq];refine Ev.bind (first_ev _ (by simp)) ?_;rw[fnz4];have e:(if(pE l).2=0 then(if cE a=0 then(if cE b=0 then(if a≤b then 0 else 9)else cE b)else cE a)else(pE l).2)=uE l a b:=rfl;rw[e]
 by_cases h:uE l a b=0
 ·simp only[h,if_true];unfold uE at h
  split at h
  ·split at h
   ·split at h
    ·split at h
     ·rename_i q1 q2 q3 q4
      obtain⟨p1,p2,p3⟩:=pE_ok q1;have c1:=cE_ok q2;have c2:=cE_ok q3;refine Ev.bind (shares_ev l a (by omega) p3 p2) ?_
      by_cases hb:brk l a=0
      ·have hb2:brk l b=0:=by
        have:=brk_more l a (b-a) (by omega) hb;rw[show a+(b-a)=b by omega]at this;exact this
       simp only[hb,if_true];refine Ev.bind (shares_ev l b (by omega) p3 p2) ?_;simp only[hb2,if_true];have:=UndoneIn_l0 (shs l a) (shs l b) (by rw[shs_length,shs_length]) (by rw[shs_length];omega) (shs l b).length 0 [] (by omega) rfl;rw[List.drop_zero,List.drop_zero,List.nil_append]at this;exact this
      ·simp only[hb,if_false,show ¬ (20:Int)=0 by omega];exact Ev.some
     ·exact absurd h (by simp)
    ·rename_i q;exact absurd h q
   ·rename_i q;exact absurd h q
  ·rename_i q;exact absurd h q
 ·simp only[h,if_false];exact Ev.some
theorem red_whole {n X:Int} (hX:0<X):red (n*X) X=(n,1):=by
 unfold red;have hg:(Int.gcd (n*X) X:Int)=X:=by
  rw[Int.gcd_mul_left_left]
  omega
 rw[hg,Int.mul_ediv_cancel _ (by omega),Int.ediv_self (by omega)]
theorem back_key {x c n d g a b:Int} (g2:x=n*g) (g3:c=d*g) (ha:a=c*b):a*n=x*(b*d):=by
 subst g2 g3 ha;ac_rfl
theorem sgs_back:∀ (l:List Int) (c a b:Int),(∀ x∈l,0≤x∧x≤10000)→brk l c=0→0<b→a=c*b→sgs (shs l c) a b=some (l.map fun x=>(⟨x,1⟩:S24))
 | [],c,a,b,_,_,_,_=>rfl
 |x::r,c,a,b,hb,hk,hb0,ha=>by
  have hx:=hb x List.mem_cons_self;have hb2:∀ y∈r,0≤y∧y≤10000:=fun y hy=>hb y (List.mem_cons_of_mem _ hy);unfold brk at hk
  split at hk
  ·exact absurd hk (by simp)
  rename_i hc
  obtain⟨g,g1,g2,g3,g4,g5,g6⟩:=fr_spec (x:=x) (c:=c) hx.1 (by omega);have key:a*(fr x c).f0=x*(b*(fr x c).f1):=back_key g2 g3 ha;simp only[shs,sgs];rw[key,red_whole (Int.mul_pos hb0 g6)];rw[if_pos (by unfold smallP;simp;omega)];rw[sgs_back r (c-x) (a*((fr x c).f1-(fr x c).f0)) (b*(fr x c).f1) hb2 hk (Int.mul_pos hb0 g6) (by rw[Int.mul_sub,key,Int.sub_mul,ha,Int.mul_assoc])]
  rfl
theorem cmp_ok {x p q:Int} (hx:0≤x∧x≤10000) (hp:0<p∧p≤4000000) (hq:0<q) (h:q≤p):∃ v,Bs_Cmp.f (fr x p).f0 (fr x p).f1 (fr x q).f0 (fr x q).f1=some v∧¬ v>0:=by
 rcases fr_cmp hx hp hq h with e|e
 ·exact ⟨-1,e,by omega⟩
 ·exact ⟨0,e,by omega⟩
theorem undone_step {F:Nat→Option Bool} {z1 z2 z3:Option Bool} {x a b m:Int} (hx:0≤x∧x≤10000) (ha:0<a) (hxa:x≤a) (h1:a≤b) (h2:b≤a+2*m) (hm:a+2*m≤4000000) (H:Ev F true):
  Ev (fun k=>(Rf_PartErr.f k (fr x b).f0 (fr x b).f1).bind fun t=>(if t=0 then((Bs_Cmp.f (fr x (a+2*m)).f0 (fr x (a+2*m)).f1 (fr x b).f0 (fr x b).f1).bind fun t1=>(if t1>0 then z1 else((Bs_Cmp.f (fr x b).f0 (fr x b).f1 (fr x a).f0 (fr x a).f1).bind fun t2=>(if t2>0 then z2 else F k))))else z3)) true:=by
 have hl:=fr_le (x:=x) (c:=b) hx.1 (by omega);obtain⟨g,g1,g2,g3,g4,g5,g6⟩:=fr_spec (x:=x) (c:=b) hx.1 (by omega);refine Ev.bind (PartErr_ev (by omega) (by omega)) ?_;rw[fr_part hx.1 (by omega) (by omega)];obtain⟨v1,e1,n1⟩:=cmp_ok (x:=x) (p:=a+2*m) (q:=b) hx (by omega) (by omega) (by omega);obtain⟨v2,e2,n2⟩:=cmp_ok (x:=x) (p:=b) (q:=a) hx (by omega) (by omega) (by omega);simp only[if_true,e1,e2,Option.bind_some,n1,n2,if_false];exact H
theorem undone_l1 (l:List Int) (c m:Int) (hl:l.length≤24) (hb:∀ x∈l,0≤x∧x≤10000) (hc:1≤c) (hm:0≤m) (hcm:c+2*m≤1000000) (hk:brk l c=0) (i:Nat) (hi:i<l.length) (hfin:Ev (fun k=>Lw_CloudUndone.l0 k l c (shs l c) (shs l (c+m)) (sps (shs l (c+2*m)) (shs l c)) ((i+1:Nat):Int)) true):
  ∀ (n j:Nat),j+n=4→Ev (fun k=>Lw_CloudUndone.l1 k l c (shs l c) (shs l (c+m)) (sps (shs l (c+2*m)) (shs l c)) (i:Int) (j:Int)) true
 |0,j,h=>by
  refine Ev.succ (f:=fun k=>Lw_CloudUndone.l1 k l c (shs l c) (shs l (c+m)) (sps (shs l (c+2*m)) (shs l c)) (i:Int) (j:Int)) ?_;simp only[Lw_CloudUndone.l1,show ¬ (j:Int)<4 by omega,if_false,up (show i<4611686018427387904 by omega)];exact hfin
 | n+1,j,h=>by
  refine Ev.succ (f:=fun k=>Lw_CloudUndone.l1 k l c (shs l c) (shs l (c+m)) (sps (shs l (c+2*m)) (shs l c)) (i:Int) (j:Int)) ?_;have ih:=undone_l1 l c m hl hb hc hm hcm hk i hi hfin n (j+1) (by omega);have hx:0≤rd l (i:Int)∧rd l (i:Int)≤10000:=by rw[rd_nat];exact hb _ (getD_mem hi)
  have hs:=sm_take hb i hl;obtain⟨k1,k2⟩:=brk_at l c i hk hb hi;have len1:(shs l c).length=l.length:=shs_length l c;have len2:(shs l (c+m)).length=l.length:=shs_length l (c+m);have len3:(shs l (c+2*m)).length=l.length:=shs_length l (c+2*m);have len4:(sps (shs l (c+2*m)) (shs l c)).length=l.length:=by rw[sps_len _ _ (by omega),len3]
  have r1:rd_T24 (shs l c) (i:Int)=fr (rd l (i:Int)) (c-sm (l.take i)):=shs_rd hi;have r2:rd_T24 (shs l (c+m)) (i:Int)=fr (rd l (i:Int)) (c-sm (l.take i)+m):=by rw[shs_rd hi];congr 1;omega
  have r3:rd_T74 (sps (shs l (c+2*m)) (shs l c)) (i:Int)=⟨fr (rd l (i:Int)) (c-sm (l.take i)+2*m),fr (rd l (i:Int)) (c-sm (l.take i))⟩:=by
   rw[sps_rd (by omega) (by omega),shs_rd hi,shs_rd hi];rw[show c+2*m-sm (l.take i)=c-sm (l.take i)+2*m by omega]
  simp only[Lw_CloudUndone.l1,show(j:Int)<4 by omega,show(0:Int)≤(i:Int) by omega,len1,len2,len4,show(i:Int)<(l.length:Int) by omega,if_true,r1,r2,r3,up (show j<4611686018427387904 by omega)];have hA:c-sm (l.take i)+2*m≤4000000:=by omega
  generalize rd l (i:Int)=x at *;generalize c-sm (l.take i)=a at *;have hj:j=0∨j=1∨j=2∨j=3:=by omega
  rcases hj with rfl|rfl|rfl|rfl
  ·simp only[show (((0:Nat):Int)=0)from rfl,if_true];exact undone_step hx k1 k2 (by omega) (by omega) hA ih
  ·simp only[show ¬ (((1:Nat):Int)=0) by decide,show(((1:Nat):Int)=1)from rfl,if_true,if_false];exact undone_step hx k1 k2 (by omega) (by omega) hA ih
  ·simp only[show ¬ (((2:Nat):Int)=0) by decide,show ¬ (((2:Nat):Int)=1) by decide,show(((2:Nat):Int)=2)from rfl,if_true,if_false];exact undone_step hx k1 k2 (by omega) (by omega) hA ih
  ·simp only[show ¬ (((3:Nat):Int)=0) by decide,show ¬ (((3:Nat):Int)=1) by decide,show ¬ (((3:Nat):Int)=2) by decide,show(((3:Nat):Int)=3)from rfl,if_true,if_false];exact undone_step hx k1 k2 (by omega) (by omega) hA ih
theorem CopyFracs_eq (l:List S24) (h:l.length<4611686018427):Bs_CopyFracs.f l=some l:=by
 unfold Bs_CopyFracs.f;simp only[Option.bind_some,List.length_nil,List.nil_append];rw[if_pos (by omega)]
theorem undone_l2 (l:List Int) (hl:l.length≤24):∀ (n i:Nat),i+n=l.length→Ev (fun k=>Lw_CloudUndone.l2 k l (l.map fun x=>(⟨x,1⟩:S24)) (i:Int)) true
 |0,i,h=>by
  refine Ev.succ (f:=fun k=>Lw_CloudUndone.l2 k l (l.map fun x=>(⟨x,1⟩:S24)) (i:Int)) ?_;simp only[Lw_CloudUndone.l2,show ¬ (i:Int)<(l.length:Int) by omega,if_false];exact Ev.some
 | n+1,i,h=>by
  refine Ev.succ (f:=fun k=>Lw_CloudUndone.l2 k l (l.map fun x=>(⟨x,1⟩:S24)) (i:Int)) ?_;have hi:i<l.length:=by omega
  have e:rd_T24 (l.map fun x=>(⟨x,1⟩:S24)) (i:Int)=⟨rd l (i:Int),1⟩:=by
   unfold rd_T24;rw[rd_nat,Int.toNat_natCast]
   simp[List.getD_eq_getElem?_getD,hi]
  simp only[Lw_CloudUndone.l2,show(i:Int)<(l.length:Int) by omega,show(0:Int)≤(i:Int) by omega,List.length_map,if_true,e,Bs_Whole.f,Option.bind_some,beq_self_eq_true,Bool.not_true,Bool.or_self,Bool.false_eq_true,if_false,up (show i<4611686018427387904 by omega)];exact undone_l2 l hl n (i+1) (by omega)
theorem undone_l0 (l:List Int) (c m:Int) (hl:l.length≤24) (hl0:0<l.length) (hb:∀ x∈l,0≤x∧x≤10000) (hc:1≤c) (hm:0≤m) (hcm:c+2*m≤1000000) (hk:brk l c=0):∀ (n i:Nat),i+n=l.length→Ev (fun k=>Lw_CloudUndone.l0 k l c (shs l c) (shs l (c+m)) (sps (shs l (c+2*m)) (shs l c)) (i:Int)) true
 | 0,i,h=>by
  refine Ev.succ (f:=fun k=>Lw_CloudUndone.l0 k l c (shs l c) (shs l (c+m)) (sps (shs l (c+2*m)) (shs l c)) (i:Int)) ?_;simp only[Lw_CloudUndone.l0,show ¬ (i:Int)<(l.length:Int) by omega,if_false];have len1:(shs l c).length=l.length:=shs_length l c;have hall:∀ f∈shs l c,ptE f.f0 f.f1=0∧f.f1≤4000000:=by
   intro f hf;obtain⟨j,hj,rfl⟩:=List.getElem_of_mem hf;have hj2:j<l.length:=by omega
   have hx:0≤rd l (j:Int)∧rd l (j:Int)≤10000:=by rw[rd_nat];exact hb _ (getD_mem hj2)
   have e:(shs l c)[j]=fr (rd l (j:Int)) (c-sm (l.take j)):=by
    have:=shs_get l c j hj2;rw[rd_nat, ←this,List.getD_eq_getElem?_getD,List.getElem?_eq_getElem hj];rfl
   have hs:=sm_take hb j hl;obtain⟨k1,k2⟩:=brk_at l c j hk hb hj2;have:=fr_le (x:=rd l (j:Int)) (c:=c-sm (l.take j)) hx.1 k1;rw[e];exact⟨fr_part hx.1 (by omega) k2,by omega⟩
  simp only[CopyFracs_eq (shs l c) (by omega),Option.bind_some];have hA:=Attenuated_ev (shs l c) c (by omega) (fun f hf=>by
   have h1:=ptE_ok (hall f hf).1
   omega)
  have e0:aE (shs l c) c=0:=by
   unfold aE;have hz:(chk shE (shs l c) 0).2=0:=by rw[chk_of (p:=shE) (fun f hf=>(hall f hf).1)]
   rw[if_neg (show ¬ (shs l c).length=0 by omega),if_neg (show ¬ 24<(shs l c).length by omega),hz,if_pos rfl];unfold cE;rw[if_pos (by omega)]
  rw[if_pos e0,sgs_back l c c 1 hb hk (by omega) (by omega)]at hA;refine Ev.bind hA ?_;simp only[sgR,List.nil_append,if_true,List.length_map,bne_self_eq_false];refine Ev.succ (f:=fun k=>Lw_CloudUndone.j4 k l (l.map fun x=>(⟨x,1⟩:S24)) false) ?_;simp only[Lw_CloudUndone.j4,Bool.false_eq_true,if_false];exact undone_l2 l hl l.length 0 (by omega)
 |n+1,i,h=>by
  refine Ev.succ (f:=fun k=>Lw_CloudUndone.l0 k l c (shs l c) (shs l (c+m)) (sps (shs l (c+2*m)) (shs l c)) (i:Int)) ?_;have hi:i<l.length:=by omega
  have ih:=undone_l0 l c m hl hl0 hb hc hm hcm hk n (i+1) (by omega);simp only[Lw_CloudUndone.l0,show(i:Int)<(l.length:Int) by omega,if_true];exact undone_l1 l c m hl hb hc hm hcm hk i hi ih 4 0 (by omega)
theorem CloudUndone_pure (l:List Int) (_:l.length≤maxLen) (_:∀ x∈l,(Lit.int .i64 x).wf=true) (c:Int) (hc0:(Lit.int .i64 c).wf=true) (m:Int) (hm0:(Lit.int .i64 m).wf=true):∃ k,Lw_CloudUndone.f k l c m=some true:=by
 apply Ev.ex (f:=fun k=>Lw_CloudUndone.f k l c m)
 unfold Lw_CloudUndone.f;refine Ev.bind awake_ev ?_;have jt:Ev (fun k=>Lw_CloudUndone.j0 k l c m true) true:=by
  refine Ev.succ (f:=fun k=>Lw_CloudUndone.j0 k l c m true) ?_;simp only[Lw_CloudUndone.j0,if_true];exact Ev.some
 simp only[few_eq,if_true,Option.bind_some,decide_eq_true_eq]
 by_cases hf:l.length≤26
 ·have hl:l.length<4611686018427387904:=by omega
  simp only[hf,if_true];refine Ev.bind (ProfileErr_ev l hl) ?_
  by_cases hp:(pE l).2=0
  ·obtain ⟨p1,p2,p3⟩:=pE_ok hp;simp only[hp,if_true,ConstantErr_eq,Option.bind_some]
   by_cases hc:cE c=0
   ·have hc2:=cE_ok hc;simp only[hc,if_true];refine Ev.bind (Break_ev l c (by omega) p3 p2) ?_
    by_cases hk:brk l c=0
    ·simp only[hk,if_true,Within_eq,Option.bind_some,decide_eq_true_eq]
     by_cases hm:0≤m∧m≤1000
     ·simp only[hm,and_self,if_true];rw[w64 (n:=2*m) (by omega),w64 (n:=c+2*m) (by omega)]
      by_cases hcm:c+2*m>1000000
      ·rw [show decide (c+2*m>1000000)=true from decide_eq_true hcm];exact jt
      ·rw [show decide (c+2*m>1000000)=false from decide_eq_false hcm];refine Ev.succ (f:=fun k=>Lw_CloudUndone.j0 k l c m false) ?_;simp only[Lw_CloudUndone.j0,Bool.false_eq_true,if_false,CopyInts_eq l (by omega),Option.bind_some];have hk1:=brk_more l c m hm.1 hk;have hk2:=brk_more l c (2*m) (by omega) hk;have c1:cE (c+m)=0:=by unfold cE;rw[if_pos (by omega)]
       have c2:cE (c+2*m)=0:=by unfold cE;rw[if_pos (by omega)]
       have d0:dE l c=0:=by unfold dE;rw[if_pos hp,hc]
       have d1:dE l (c+m)=0:=by unfold dE;rw[if_pos hp,c1]
       have u1:=Undone_ev l c hl;have u2:=Undone_ev l (c+m) hl;rw[if_pos d0,if_pos hk]at u1;rw[if_pos d1,if_pos hk1]at u2;have e3:uE l c (c+2*m)=0:=by unfold uE;rw[if_pos hp,if_pos hc,if_pos c2,if_pos (by omega)]
       have u3:=UndoneIn_ev l c (c+2*m) hl;rw[if_pos e3,if_pos hk]at u3;refine Ev.bind u1 ?_;rw[w64 (n:=c+m) (by omega),w64 (n:=2*m) (by omega),w64 (n:=c+2*m) (by omega)];refine Ev.bind u2 ?_;refine Ev.bind u3 ?_;have len4:(sps (shs l (c+2*m)) (shs l c)).length=l.length:=by rw[sps_len _ _ (by rw[shs_length,shs_length]),shs_length]
       simp only[shs_length,len4,if_true,bne_self_eq_false];refine Ev.succ (f:=fun k=>Lw_CloudUndone.j1 k l c (shs l c) (shs l (c+m)) (sps (shs l (c+2*m)) (shs l c)) false) ?_;simp only[Lw_CloudUndone.j1,Bool.false_eq_true,if_false];exact undone_l0 l c m p2 p1 p3 hc2.1 hm.1 (by omega) hk l.length 0 (by omega)
     ·simp only[hm,if_false];exact jt
    ·simp only[hk,if_false];exact jt
   ·simp only[hc,if_false];exact jt
  ·simp only[hp,if_false];exact jt
 ·simp only[hf,if_false];exact jt
end Go.Proofs.YteiafijbgjgiaaaGreat.P
