/-
PLAIN LAW: what the walks compute answers as the statement says (no program in sight; Ev: from some number of rounds on).
-/
import Derived.Test.YteiafijbgjgiaaaGreatP30
namespace Go.Proofs.YteiafijbgjgiaaaGreat.P
open Go Go.RowKit Go.Proofs.YteiafijbgjgiaaaGreat.A Go.Proofs.YteiafijbgjgiaaaGreatW.PrintWords Go.Proofs.YteiafijbgjgiaaaGreatW.PrintLast Go.Proofs.YteiafijbgjgiaaaGreatW.PrintMore
set_option linter.unusedSimpArgs false
set_option linter.unusedVariables false
def Ev {α:Type} (f:Nat→Option α) (r:α):Prop:=∃ k,∀ j,k≤j→f j=some r

theorem Ev.some {α:Type} {r:α}:Ev (fun _=>Option.some r) r:=⟨0,fun _ _=>rfl⟩
theorem Ev.bind {α β:Type} {f:Nat→Option α} {g:Nat→α→Option β} {a:α} {b:β} (h:Ev f a) (h2:Ev (fun k=>g k a) b):Ev (fun k=>(f k).bind (g k)) b:=by
 obtain⟨k,hk⟩:=h;obtain⟨m,hm⟩:=h2;exact⟨max k m,fun j hj=>by show(f j).bind (g j)=_;rw[hk j (by omega)];exact hm j (by omega)⟩
theorem Ev.succ {α:Type} {f:Nat→Option α} {r:α} (h:Ev (fun k=>f (k+1)) r):Ev f r:=by
 obtain⟨k,hk⟩:=h;exact⟨k+1,fun j hj=>by obtain⟨m,rfl⟩:∃ m,j=m+1:=⟨j-1,by omega⟩;exact hk m (by omega)⟩
theorem Ev.congr {α:Type} {f g:Nat→Option α} {r:α} (e:∀ k,f k=g k) (h:Ev f r):Ev g r:=by
 obtain⟨k,hk⟩:=h;exact⟨k,fun j hj=>by rw[← e j];exact hk j hj⟩
theorem Ev.ex {α:Type} {f:Nat→Option α} {r:α} (h:Ev f r):∃ k,f k=Option.some r:=let ⟨k,hk⟩:=h;⟨k,hk k (Nat.le_refl _)⟩
theorem Ev.of_mono {α:Type} {f:Nat→Option α} {r:α} (hm:∀ k,LeO (f k) (f (k+1))) {k:Nat} (h:f k=Option.some r):Ev f r:=by
  refine⟨k,fun j hj=>?_⟩
  induction j with
  | zero => obtain rfl:k=0:=by omega
            exact h
  | succ j ih=>
    by_cases e:k=j+1
    · subst e;exact h
    · exact hm j r (ih (by omega))
theorem up {i:Nat} (h:i<4611686018427387904):wrap64 ((i:Int)+1)=((i+1:Nat):Int):=by
 unfold wrap64;omega
theorem w64 {n:Int} (h: -9223372036854775808≤n∧n≤9223372036854775807):wrap64 n=n:=by unfold wrap64;omega
theorem rd_nat (l:List Int) (i:Nat):rd l (i:Int)=l.getD i 0:=by unfold rd;simp
theorem drop_rd {l:List Int} {i:Nat} (h:i<l.length):l.drop i=rd l (i:Int)::l.drop (i+1):=by
 rw[rd_nat,List.drop_eq_getElem_cons h]
 simp[List.getD_eq_getElem?_getD,h]
theorem drop_getD {α:Type} {l:List α} {i:Nat} (z:α) (h:i<l.length):l.drop i=l.getD i z::l.drop (i+1):=by
 rw[List.drop_eq_getElem_cons h]
 simp[List.getD_eq_getElem?_getD,h]

theorem mx_eq (a b:Int):mx a b=max a b:=by unfold mx;split<;>omega
theorem i64_in {n:Int} (h:(Lit.int .i64 n).wf=true): -9223372036854775808≤n∧n≤9223372036854775807:=by
 simp[Lit.wf,IntKind.min,IntKind.max,IntKind.signed,IntKind.bits]at h
 omega

theorem within_eq (a b c:Int):L_within.f a b c=some (decide (b≤a∧a≤c)):=by
 unfold L_within.f
 by_cases h:b≤a<;>simp[h]
theorem Within_eq (a b c:Int):Bs_Within.f a b c=some (decide (b≤a∧a≤c)):=by
 unfold Bs_Within.f
 by_cases h:b≤a<;>simp[h]
theorem unless_eq (b:Bool) (e:Int):L_unless.f b e=some (if b=true then 0 else e):=by
 unfold L_unless.f
 cases b<;>simp
theorem Size_eq (a:Int):Bs_Size.f a=some (mx a (wrap64 (-a))):=rfl

def fnz:List Int→Int
 | []=>0
 |x::r=>if x=0 then fnz r else x

theorem first_l0 (l:List Int) (hl:l.length<4611686018427387904):∀ (n i:Nat),i+n=l.length→Ev (fun k=>L_first.l0 k l (l.length:Int) (i:Int)) (fnz (l.drop i))
 |0,i,h=>by
  refine Ev.succ (f:=fun k=>L_first.l0 k l (l.length:Int) (i:Int)) ?_;have h1:¬ (i:Int)<(l.length:Int):=by omega
  simp only[L_first.l0,h1,if_false];rw[show l.drop i=[]from List.drop_eq_nil_of_le (by omega)];exact Ev.some
 |n+1,i,h=>by
  refine Ev.succ (f:=fun k=>L_first.l0 k l (l.length:Int) (i:Int)) ?_;have h1:(i:Int)<(l.length:Int):=by omega
  have h2:(0:Int)≤(i:Int):=by omega
  simp only[L_first.l0,h1,h2,if_true,up (show i<4611686018427387904 by omega)];rw[drop_rd (show i<l.length by omega)];unfold fnz
  by_cases e:rd l (i:Int)=0
  ·simp only[e,if_true];exact first_l0 l hl n (i+1) (by omega)
  ·simp only[e,if_false];exact Ev.some
theorem first_ev (l:List Int) (hl:l.length<4611686018427387904):Ev (fun k=>L_first.f k l) (fnz l):=first_l0 l hl l.length 0 (by omega)

theorem size_abs {x:Int} (h: -9223372036854775807≤x∧x≤9223372036854775807):mx x (wrap64 (-x))=(x.natAbs:Int):=by
 rw[w64 (n:= -x) (by omega),mx_eq];omega
theorem gcd_step (x y:Int):Int.gcd y (x.tmod y)=Int.gcd x y:=by
 show Nat.gcd y.natAbs (x.tmod y).natAbs=Nat.gcd x.natAbs y.natAbs
 rw[Int.natAbs_tmod,Nat.gcd_comm, ←Nat.gcd_rec,Nat.gcd_comm]
theorem tmod_in {x y:Int} (h0:y≠0):(x.tmod y).natAbs<y.natAbs:=by
 rw[Int.natAbs_tmod];exact Nat.mod_lt _ (by omega)
theorem Gcd_l0:∀ (m:Nat) (x y:Int),y.natAbs≤m→x.natAbs<9223372036854775808→y.natAbs<9223372036854775808→Ev (fun k=>Bs_Gcd.l0 k x y) (Int.gcd x y:Int)
 |0,x,y,h,hx,_=>by
  refine Ev.succ (f:=fun k=>Bs_Gcd.l0 k x y) ?_;obtain rfl:y=0:=by omega
  simp only[Bs_Gcd.l0,if_true,Size_eq,Option.bind_some,size_abs (x:=x) (by omega),Int.gcd_zero_right];exact Ev.some
 |m+1,x,y,h,hx,hy=>by
  refine Ev.succ (f:=fun k=>Bs_Gcd.l0 k x y) ?_
  by_cases h0:y=0
  ·subst h0;simp only[Bs_Gcd.l0,if_true,Size_eq,Option.bind_some,size_abs (x:=x) (by omega),Int.gcd_zero_right];exact Ev.some
  ·simp only[Bs_Gcd.l0,h0,if_false];have ht:=tmod_in (x:=x) h0;rw[← gcd_step x y];exact Gcd_l0 m y (x.tmod y) (by omega) hy (by omega)
theorem Gcd_ev {x y:Int} (hx:x.natAbs<9223372036854775808) (hy:y.natAbs<9223372036854775808):Ev (fun k=>Bs_Gcd.f k x y) (Int.gcd x y:Int):=Gcd_l0 _ x y (Nat.le_refl _) hx hy
theorem divisor_l0:∀ (m:Nat) (x y:Int),y.natAbs≤m→x.natAbs<9223372036854775808→y.natAbs<9223372036854775808→Ev (fun k=>L_divisor.l0 k x y) (Int.gcd x y:Int)
 |0,x,y,h,hx,_=>by
  refine Ev.succ (f:=fun k=>L_divisor.l0 k x y) ?_;obtain rfl:y=0:=by omega
  simp only[L_divisor.l0,if_true,size_abs (x:=x) (by omega),Int.gcd_zero_right];exact Ev.some
 |m+1,x,y,h,hx,hy=>by
  refine Ev.succ (f:=fun k=>L_divisor.l0 k x y) ?_
  by_cases h0:y=0
  ·subst h0;simp only[L_divisor.l0,if_true,size_abs (x:=x) (by omega),Int.gcd_zero_right];exact Ev.some
  ·simp only[L_divisor.l0,h0,if_false];have ht:=tmod_in (x:=x) h0;rw[← gcd_step x y];exact divisor_l0 m y (x.tmod y) (by omega) hy (by omega)
theorem divisor_ev {x y:Int} (hx:x.natAbs<9223372036854775808) (hy:y.natAbs<9223372036854775808):Ev (fun k=>L_divisor.f k x y) (Int.gcd x y:Int):=divisor_l0 _ x y (Nat.le_refl _) hx hy

theorem CopyInts_eq (l:List Int) (h:l.length<4611686018427):Bs_CopyInts.f l=some l:=by
 unfold Bs_CopyInts.f;simp only[Option.bind_some,List.length_nil,List.nil_append];rw[if_pos (by omega)]
theorem both_eq (a b:Int):Lw_both.f a b=some (if a=0 then b else a):=by
 unfold Lw_both.f;split<;>rfl
theorem few_eq (l:List Int):Lw_few.f l=some (decide (l.length≤26)):=by
 unfold Lw_few.f;congr 2;apply propext;omega
def chk {α:Type} (p:α→Int):List α→Nat→Int×Int
 | [],_=>(0,0)
 |x::r,i=>if p x=0 then chk p r (i+1)else((i:Int),p x)
theorem chk_all {α:Type} {p:α→Int}:∀ {l:List α} {i:Nat},(chk p l i).2=0→∀ x∈l,p x=0
 | [],i,_=>by simp
 | y::r,i,h=>by
  unfold chk at h
  split at h<;>rename_i e
  ·intro x hx
   rcases List.mem_cons.mp hx with rfl|hx
   ·exact e
   ·exact chk_all h x hx
  ·exact absurd h e
theorem chk_loop {α:Type} (z:α) (p:α→Int) (l:List α) (hl:l.length<4611686018427387904) (F:Nat→Int→Option (Int×Int))
  (h0:∀ k i,¬ i<(l.length:Int)→F (k+1) i=some (0,0))
  (h1:∀ k (i:Nat),i<l.length→F (k+1) (i:Int)=if p (l.getD i z)=0 then F k (wrap64 ((i:Int)+1))else some ((i:Int),p (l.getD i z))):
  ∀ (n i:Nat),i+n=l.length→Ev (fun k=>F k (i:Int)) (chk p (l.drop i) i)
 |0,i,h=>by
  refine Ev.succ (f:=fun k=>F k (i:Int)) ?_;rw[show l.drop i=[]from List.drop_eq_nil_of_le (by omega)];exact Ev.congr (fun k=>(h0 k i (by omega)).symm) Ev.some
 |n+1,i,h=>by
  refine Ev.succ (f:=fun k=>F k (i:Int)) ?_;refine Ev.congr (fun k=>(h1 k i (by omega)).symm) ?_;rw[drop_getD z (show i<l.length by omega)];unfold chk
  by_cases e:p (l.getD i z)=0
  ·simp only[e,if_true,up (show i<4611686018427387904 by omega)];exact chk_loop z p l hl F h0 h1 n (i+1) (by omega)
  ·simp only[e,if_false];exact Ev.some
theorem isSignal_eq (a:Int):L_isSignal.f a=some (decide (0≤a∧a≤10000)):=by
 unfold L_isSignal.f;rw[within_eq];rfl
theorem isConstant_eq (a:Int):L_isConstant.f a=some (decide (1≤a∧a≤1000000)):=by
 unfold L_isConstant.f;rw[within_eq];rfl
def sE (x:Int):Int:=if 0≤x∧x≤10000 then 0 else 2
def pE (l:List Int):Int×Int:=if l.length=0 then(0,10)else if 24<l.length then(0,8)else chk sE l 0
theorem CheckProfile_1_eq (a:Int):L_CheckProfile_1.f a=some (sE a):=by
 unfold L_CheckProfile_1.f sE;simp only[isSignal_eq,unless_eq,Option.bind_some,decide_eq_true_eq]
theorem each_profile_ev (l:List Int) (hl:l.length<4611686018427387904):Ev (fun k=>L_each_int_CheckProfile_1.f k l) (chk sE l 0):=by
 refine chk_loop 0 sE l hl (fun k i=>L_each_int_CheckProfile_1.l0 k l (l.length:Int) i) (fun k i h=>?_) (fun k i h=>?_) l.length 0 (by omega)
 ·simp only[L_each_int_CheckProfile_1.l0,h,if_false]
 ·simp only[L_each_int_CheckProfile_1.l0,show(i:Int)<(l.length:Int) by omega,show(0:Int)≤(i:Int) by omega,if_true,CheckProfile_1_eq,Option.bind_some,rd_nat]
theorem CheckProfile_ev (l:List Int) (hl:l.length<4611686018427387904):Ev (fun k=>L_CheckProfile.f k l) (pE l):=by
 unfold L_CheckProfile.f;simp only[unless_eq,Option.bind_some];refine Ev.bind (first_ev _ (by simp)) ?_;unfold pE
 by_cases h1:l.length=0
 ·simp only[h1,show ¬ ((0:Nat):Int)>0 by omega,decide_false,fnz];exact Ev.some
 ·by_cases h2:24<l.length
  ·simp only[h1,h2,show(l.length:Int)>0 by omega,show ¬ (l.length:Int)≤24 by omega,decide_false,decide_true,fnz,if_true,if_false];exact Ev.some
  ·simp only[h1,h2,show(l.length:Int)>0 by omega,show(l.length:Int)≤24 by omega,decide_true,fnz,if_true,if_false];exact Ev.bind (each_profile_ev l hl) Ev.some
theorem RefCheckProfile_ev (l:List Int) (hl:l.length<4611686018427387904):Ev (fun k=>Rf_CheckProfile.f k l) (pE l):=by
 unfold Rf_CheckProfile.f pE
 by_cases h1:l.length=0
 ·simp only[h1];exact Ev.some
 ·by_cases h2:24<l.length
  ·simp only[h1,h2,show ¬ (l.length:Int)=0 by omega,show(l.length:Int)>24 by omega,if_true,if_false];exact Ev.some
  ·simp only[h1,h2,show ¬ (l.length:Int)=0 by omega,show ¬ (l.length:Int)>24 by omega,if_false];refine chk_loop 0 sE l hl (fun k i=>Rf_CheckProfile.l0 k l i) (fun k i h=>?_) (fun k i h=>?_) l.length 0 (by omega)
   ·simp only[Rf_CheckProfile.l0,h,if_false]
   ·simp only[Rf_CheckProfile.l0,show(i:Int)<(l.length:Int) by omega,show(0:Int)≤(i:Int) by omega,if_true,Within_eq,Option.bind_some,rd_nat,sE,decide_eq_true_eq]
    split<;>simp
theorem open_ev (l:List Int) (hl:l.length<4611686018427387904):Ev (fun k=>L_open.f k l) (l,(pE l).2):=by
 unfold L_open.f;exact Ev.bind (CheckProfile_ev l hl) Ev.some
theorem pE_ok {l:List Int} (h:(pE l).2=0):0<l.length∧l.length≤24∧∀ x∈l,0≤x∧x≤10000:=by
 unfold pE at h
 split at h
 ·exact absurd h (by simp)
 split at h
 ·exact absurd h (by simp)
 refine⟨by omega,by omega,fun x hx=>?_⟩;have:=chk_all h x hx;unfold sE at this
 split at this<;>omega
def sm:List Int→Int
 | []=>0
 |x::r=>x+sm r
theorem sm_append (a b:List Int):sm (a++b)=sm a+sm b:=by
  induction a with
  |nil=>simp[sm]
  |cons x r ih=>simp only[List.cons_append,sm,ih];omega
theorem sm_nonneg:∀ {l:List Int},(∀ x∈l,0≤x∧x≤10000)→0≤sm l∧sm l≤10000*(l.length:Int)
 | [],_=>by simp[sm]
 |x::r,h=>by
  have:=sm_nonneg (l:=r) (fun y hy=>h y (List.mem_cons_of_mem _ hy));have h2:=h x List.mem_cons_self;simp only[sm,List.length_cons];omega
theorem take_succ_sm {l:List Int} {i:Nat} (h:i<l.length):sm (l.take (i+1))=sm (l.take i)+l.getD i 0:=by
 rw[List.take_add_one,sm_append]
 simp[List.getD_eq_getElem?_getD,h,sm]
theorem getD_mem {l:List Int} {i:Nat} (h:i<l.length):l.getD i 0∈l:=by
 simp[List.getD_eq_getElem?_getD,h]
theorem sm_take {l:List Int} (hb:∀ x∈l,0≤x∧x≤10000) (i:Nat) (hl:l.length≤24):0≤sm (l.take i)∧sm (l.take i)≤240000:=by
 have:=sm_nonneg (l:=l.take i) (fun x hx=>hb x (List.mem_of_mem_take hx));have h2:(l.take i).length≤24:=by rw[List.length_take];omega
 omega
theorem sum_l0 (l:List Int) (hb:∀ x∈l,0≤x∧x≤10000) (hl:l.length≤24):∀ (n i:Nat),i+n=l.length→Ev (fun k=>L_profile_sum.l0 k (sm (l.take i)) l (l.length:Int) (i:Int)) (sm l)
 |0,i,h=>by
  refine Ev.succ (f:=fun k=>L_profile_sum.l0 k (sm (l.take i)) l (l.length:Int) (i:Int)) ?_;simp only[L_profile_sum.l0,show ¬ (i:Int)<(l.length:Int) by omega,if_false];rw[List.take_of_length_le (by omega)];exact Ev.some
 |n+1,i,h=>by
  refine Ev.succ (f:=fun k=>L_profile_sum.l0 k (sm (l.take i)) l (l.length:Int) (i:Int)) ?_;have hi:i<l.length:=by omega
  have h1:=sm_take hb i hl;have h2:=sm_take hb (i+1) hl;rw[take_succ_sm hi]at h2;simp only[L_profile_sum.l0,show(i:Int)<(l.length:Int) by omega,show(0:Int)≤(i:Int) by omega,if_true,up (show i<4611686018427387904 by omega),rd_nat];rw[w64 (n:=sm (l.take i)+l.getD i 0) (by omega), ←take_succ_sm hi];exact sum_l0 l hb hl n (i+1) (by omega)
theorem sum_ev (l:List Int) (hb:∀ x∈l,0≤x∧x≤10000) (hl:l.length≤24):Ev (fun k=>L_profile_sum.f k l) (sm l):=by
 have:=sum_l0 l hb hl l.length 0 (by omega);exact this
theorem Rest_l0 (l:List Int) (c:Int) (hc: -4000000≤c∧c≤4000000) (hb:∀ x∈l,0≤x∧x≤10000) (hl:l.length≤24) (g:Nat) (hg:g≤l.length):∀ (n i:Nat),i+n=g→Ev (fun k=>Rf_Rest.l0 k l (c-sm (l.take i)) (g:Int) (i:Int)) (c-sm (l.take g))
 |0,i,h=>by
  refine Ev.succ (f:=fun k=>Rf_Rest.l0 k l (c-sm (l.take i)) (g:Int) (i:Int)) ?_;simp only[Rf_Rest.l0,show ¬ (i:Int)<(g:Int) by omega,if_false];rw[show i=g by omega];exact Ev.some
 |n+1,i,h=>by
  refine Ev.succ (f:=fun k=>Rf_Rest.l0 k l (c-sm (l.take i)) (g:Int) (i:Int)) ?_;have hi:i<l.length:=by omega
  have h1:=sm_take hb i hl;have h2:=sm_take hb (i+1) hl;rw[take_succ_sm hi]at h2;simp only[Rf_Rest.l0,show(i:Int)<(g:Int) by omega,show(i:Int)<(l.length:Int) by omega,show(0:Int)≤(i:Int) by omega,if_true,up (show i<4611686018427387904 by omega),rd_nat];rw[w64 (n:=c-sm (l.take i)-l.getD i 0) (by omega),show c-sm (l.take i)-l.getD i 0=c-sm (l.take (i+1)) by rw[take_succ_sm hi];omega];exact Rest_l0 l c hc hb hl g hg n (i+1) (by omega)
theorem Rest_ev (l:List Int) (c:Int) (hc: -4000000≤c∧c≤4000000) (hb:∀ x∈l,0≤x∧x≤10000) (hl:l.length≤24) (g:Nat) (hg:g≤l.length):Ev (fun k=>Rf_Rest.f k l c (g:Int)) (c-sm (l.take g)):=by
 have:=Rest_l0 l c hc hb hl g hg g 0 (by omega);rw[show c-sm (l.take 0)=c by simp[sm]]at this;exact this
def brk:List Int→Int→Int
 | [],c=>if c<0 then 20 else 0
 |x::r,c=>if c≤0 then 20 else brk r (c-x)
theorem Break_l0 (l:List Int) (c:Int) (hc:0≤c∧c≤4000000) (hb:∀ x∈l,0≤x∧x≤10000) (hl:l.length≤24):∀ (n i:Nat),i+n=l.length→Ev (fun k=>Rf_BreakErr.l0 k l c (i:Int)) (brk (l.drop i) (c-sm (l.take i)))
 |0,i,h=>by
  refine Ev.succ (f:=fun k=>Rf_BreakErr.l0 k l c (i:Int)) ?_;simp only[Rf_BreakErr.l0,show ¬ (i:Int)<(l.length:Int) by omega,if_false];refine Ev.bind (Rest_ev l c (by omega) hb hl l.length (Nat.le_refl _)) ?_;rw[show l.drop i=[]from List.drop_eq_nil_of_le (by omega),show i=l.length by omega];unfold brk
  split<;>exact Ev.some
 |n+1,i,h=>by
  refine Ev.succ (f:=fun k=>Rf_BreakErr.l0 k l c (i:Int)) ?_;have hi:i<l.length:=by omega
  simp only[Rf_BreakErr.l0,show(i:Int)<(l.length:Int) by omega,if_true,up (show i<4611686018427387904 by omega)];refine Ev.bind (Rest_ev l c (by omega) hb hl i (by omega)) ?_;rw[drop_getD 0 hi];unfold brk
  split
  ·exact Ev.some
  ·rw [show c-sm (l.take i)-l.getD i 0=c-sm (l.take (i+1)) by rw[take_succ_sm hi];omega];exact Break_l0 l c hc hb hl n (i+1) (by omega)
theorem Break_ev (l:List Int) (c:Int) (hc:0≤c∧c≤4000000) (hb:∀ x∈l,0≤x∧x≤10000) (hl:l.length≤24):Ev (fun k=>Rf_BreakErr.f k l c) (brk l c):=by
 have:=Break_l0 l c hc hb hl l.length 0 (by omega);rw[show c-sm (l.take 0)=c by simp[sm]]at this;exact this
def fr (x c:Int):S24:=⟨Int.tdiv x (Int.gcd x c),Int.tdiv c (Int.gcd x c)⟩
def shs:List Int→Int→List S24
 | [],_=> []
 |x::r,c=>fr x c::shs r (c-x)
theorem tdiv_in {a b M:Int} (ha: -M≤a∧a≤M): -M≤Int.tdiv a b∧Int.tdiv a b≤M:=by
 have h6:(a.tdiv b).natAbs≤a.natAbs:=by rw[Int.natAbs_tdiv];exact Nat.div_le_self _ _
 omega
theorem gcd_pos {x c:Int} (h:0<c):(Int.gcd x c:Int)≠0:=by
 intro h0;have:Int.gcd x c=0:=by omega
 have:=(Int.gcd_eq_zero_iff.mp this).2
 omega
theorem fraction_ev {x c:Int} (hx:0≤x∧x≤10000) (hc:0<c∧c≤4000000):Ev (fun k=>L_fraction.f k x c) ((fr x c).f0,(fr x c).f1):=by
 unfold L_fraction.f;refine Ev.bind (divisor_ev (by omega) (by omega)) ?_;rw[if_neg (gcd_pos hc.1)];have h1:=tdiv_in (a:=x) (b:=(Int.gcd x c:Int)) (M:=10000) (by omega);have h2:=tdiv_in (a:=c) (b:=(Int.gcd x c:Int)) (M:=4000000) (by omega);rw[w64 (by omega),w64 (by omega)];exact Ev.some
theorem Lowest_ev {x c:Int} (hx:0≤x∧x≤10000) (hc:0<c∧c≤4000000):Ev (fun k=>Bs_Lowest.f k x c) ((fr x c).f0,(fr x c).f1):=by
 unfold Bs_Lowest.f;refine Ev.bind (Gcd_ev (by omega) (by omega)) ?_;rw[if_neg (by omega),if_neg (gcd_pos hc.1)];have h1:=tdiv_in (a:=x) (b:=(Int.gcd x c:Int)) (M:=10000) (by omega);have h2:=tdiv_in (a:=c) (b:=(Int.gcd x c:Int)) (M:=4000000) (by omega);rw[w64 (by omega),w64 (by omega)];exact Ev.some
def shR:List S24→List Int→Int→List S24×Int
 |a,[],_=>(a,0)
 |a,x::r,c=>if c=0 then([],20)else shR (a++ [fr x c]) r (c-x)
theorem shares_l0 (l:List Int) (hb:∀ x∈l,0≤x∧x≤10000) (hl:l.length≤24):∀ (n i:Nat) (a:List S24) (c:Int),i+n=l.length→a.length=i→c≤4000000→sm (l.drop i)≤c→Ev (fun k=>L_profile_shares.l0 k a c l (l.length:Int) (i:Int)) (shR a (l.drop i) c)
 |0,i,a,c,h,_,_,_=>by
  refine Ev.succ (f:=fun k=>L_profile_shares.l0 k a c l (l.length:Int) (i:Int)) ?_;simp only[L_profile_shares.l0,show ¬ (i:Int)<(l.length:Int) by omega,if_false];rw[show l.drop i=[]from List.drop_eq_nil_of_le (by omega)];exact Ev.some
 |n+1,i,a,c,h,ha,hc,hs=>by
  refine Ev.succ (f:=fun k=>L_profile_shares.l0 k a c l (l.length:Int) (i:Int)) ?_;have hi:i<l.length:=by omega
  have hx:=hb _ (getD_mem hi);rw[drop_getD 0 hi]at hs ⊢;have hs2:=(sm_nonneg (l:=l.drop (i+1)) (fun y hy=>hb y (List.mem_of_mem_drop hy))).1;simp only[sm]at hs;simp only[L_profile_shares.l0,show(i:Int)<(l.length:Int) by omega,show(0:Int)≤(i:Int) by omega,if_true,up (show i<4611686018427387904 by omega),rd_nat,show a.length<8796093022208 by omega];unfold shR
  by_cases h0:c=0
  ·simp only[h0,if_true];exact Ev.some
  ·simp only[h0,if_false];refine Ev.bind (fraction_ev hx (by omega)) ?_;rw[w64 (by omega)];exact shares_l0 l hb hl n (i+1) (a++ [fr (l.getD i 0) c]) (c-l.getD i 0) (by omega) (by simp[ha]) (by omega) (by omega)
theorem brk_two:∀ (l:List Int) (c:Int),brk l c=0∨brk l c=20
 | [],c=>by unfold brk;split<;>simp
 |x::r,c=>by
  unfold brk;split
  ·simp
  ·exact brk_two r _
theorem brk_over:∀ (l:List Int) (c:Int),c<sm l→brk l c=20
 | [],c,h=>by unfold brk;simp only[sm]at h;rw[if_pos h]
 |x::r,c,h=>by
  unfold brk;split
  ·rfl
  ·simp only[sm]at h;exact brk_over r _ (by omega)
theorem shR_eq:∀ (l:List Int) (a:List S24) (c:Int),(∀ x∈l,0≤x∧x≤10000)→sm l≤c→shR a l c=if brk l c=0 then(a++shs l c,0)else([],20)
 | [],a,c,_,h=>by
  simp only[sm]at h;have e:brk [] c=0:=by unfold brk;rw[if_neg (by omega)]
  rw[if_pos e];simp[shR,shs]
 | x::r,a,c,hb,h=>by
  have hb2:∀ y∈r,0≤y∧y≤10000:=fun y hy=>hb y (List.mem_cons_of_mem _ hy);have h1:=sm_nonneg (l:=r) hb2;have h2:=hb x List.mem_cons_self;simp only[sm]at h;unfold shR brk shs
  by_cases h0:c=0
  ·rw [if_pos h0,if_pos (show c≤0 by omega),if_neg (by omega)]
  ·rw [if_neg h0,if_neg (show ¬ c≤0 by omega),shR_eq r _ _ hb2 (by omega)]
   simp
theorem shares_ev (l:List Int) (c:Int) (hc:c≤4000000) (hb:∀ x∈l,0≤x∧x≤10000) (hl:l.length≤24):Ev (fun k=>L_profile_shares.f k l c) (if brk l c=0 then(shs l c,0)else([],20)):=by
 unfold L_profile_shares.f;refine Ev.bind (sum_ev l hb hl) ?_
 by_cases h:sm l>c
 ·simp only[h,if_true];rw[brk_over l c h];exact Ev.some
 ·simp only[h,if_false];have:=shares_l0 l hb hl l.length 0 [] c (by omega) rfl hc (by simpa using (by omega:sm l≤c));rw[List.drop_zero,shR_eq l [] c hb (by omega)]at this;exact this
theorem Shares_l0 (l:List Int) (c:Int) (hc:0≤c∧c≤4000000) (hb:∀ x∈l,0≤x∧x≤10000) (hl:l.length≤24):∀ (n i:Nat) (a:List S24),i+n=l.length→a.length=i→brk (l.drop i) (c-sm (l.take i))=0→Ev (fun k=>Rf_Shares.l0 k l c a (i:Int)) (a++shs (l.drop i) (c-sm (l.take i)))
 |0,i,a,h,_,_=>by
  refine Ev.succ (f:=fun k=>Rf_Shares.l0 k l c a (i:Int)) ?_;simp only[Rf_Shares.l0,show ¬ (i:Int)<(l.length:Int) by omega,if_false];rw[show l.drop i=[]from List.drop_eq_nil_of_le (by omega)];simp only[shs,List.append_nil];exact Ev.some
 |n+1,i,a,h,ha,hk=>by
  refine Ev.succ (f:=fun k=>Rf_Shares.l0 k l c a (i:Int)) ?_;have hi:i<l.length:=by omega
  have hx:=hb _ (getD_mem hi);have h1:=sm_take hb i hl;rw[drop_getD 0 hi]at hk ⊢;unfold brk at hk
  split at hk
  ·exact absurd hk (by simp)
  rename_i h0
  simp only[Rf_Shares.l0,show(i:Int)<(l.length:Int) by omega,show(0:Int)≤(i:Int) by omega,if_true,up (show i<4611686018427387904 by omega),rd_nat,show a.length<8796093022208 by omega];refine Ev.bind (Rest_ev l c (by omega) hb hl i (by omega)) ?_;refine Ev.bind (Lowest_ev hx (by omega)) ?_;have e:c-sm (l.take i)-l.getD i 0=c-sm (l.take (i+1)):=by rw[take_succ_sm hi];omega
  unfold shs;rw[e]at hk ⊢;have:=Shares_l0 l c hc hb hl n (i+1) (a++ [fr (l.getD i 0) (c-sm (l.take i))]) (by omega) (by simp[ha]) hk;rw[List.append_assoc]at this;exact this
theorem Shares_ev (l:List Int) (c:Int) (hc:0≤c∧c≤4000000) (hb:∀ x∈l,0≤x∧x≤10000) (hl:l.length≤24) (hk:brk l c=0):Ev (fun k=>Rf_Shares.f k l c) (shs l c):=by
 have:=Shares_l0 l c hc hb hl l.length 0 [] (by omega) rfl (by simpa [sm]using hk);simp only[List.drop_zero,List.take_zero,sm,Int.sub_zero,List.nil_append]at this;exact this
theorem shs_length:∀ (l:List Int) (c:Int),(shs l c).length=l.length
 | [],_=>rfl
 |x::r,c=>by simp[shs,shs_length r]
theorem Fracs_l0 (x:List S24) (hl:x.length<4611686018427387904):∀ (n i:Nat),i+n=x.length→Ev (fun k=>Bs_Fracs.l0 k x x (i:Int)) true
 |0,i,h=>by
  refine Ev.succ (f:=fun k=>Bs_Fracs.l0 k x x (i:Int)) ?_;simp only[Bs_Fracs.l0,show ¬ (i:Int)<(x.length:Int) by omega,if_false];exact Ev.some
 |n+1,i,h=>by
  refine Ev.succ (f:=fun k=>Bs_Fracs.l0 k x x (i:Int)) ?_;simp only[Bs_Fracs.l0,show(i:Int)<(x.length:Int) by omega,show(0:Int)≤(i:Int) by omega,if_true,beq_self_eq_true,Bool.not_true,Bool.or_self,Bool.false_eq_true,if_false,up (show i<4611686018427387904 by omega)];exact Fracs_l0 x hl n (i+1) (by omega)
theorem Fracs_ev (x:List S24) (hl:x.length<4611686018427387904):Ev (fun k=>Bs_Fracs.f k x x) true:=by
 unfold Bs_Fracs.f;simp only[if_true];exact Fracs_l0 x hl x.length 0 (by omega)

def cE (a:Int):Int:=if 1≤a∧a≤1000000 then 0 else 2
theorem constantErr_eq (a:Int):L_constantErr.f a=some (cE a):=by
 unfold L_constantErr.f cE;simp only[isConstant_eq,unless_eq,Option.bind_some,decide_eq_true_eq]
theorem ConstantErr_eq (a:Int):Rf_ConstantErr.f a=some (cE a):=by
 unfold Rf_ConstantErr.f cE;simp only[Within_eq,Option.bind_some,decide_eq_true_eq]
 split<;>rfl
abbrev St:=Option (List S40×S40)
def stepG (gap:Int) (s:St) (i:Int):St:=
 match s with
 |none=>some ([],⟨i,i⟩)
 |some (b,r)=>if i-r.f1-1≤gap then some (b,⟨r.f0,i⟩)else some (b++ [r],⟨i,i⟩)
def G (p:Int→Bool) (gap:Int):Nat→St
 |0=>none
 |n+1=>if p (n:Int)=true then stepG gap (G p gap n) (n:Int)else G p gap n
def ptE (n d:Int):Int:=if 0<d∧Int.gcd n d=1 then(if(0≤n∧n≤d)∧d≤1000000000 then 0 else 2)else 3
theorem divisor_pos {x y:Int} (hx:x.natAbs≤9223372036854775808) (hy:0<y∧y≤9223372036854775807):Ev (fun k=>L_divisor.f k x y) (Int.gcd x y:Int):=by
 have ht:=tmod_in (x:=x) (y:=y) (by omega);have h:Ev (fun k=>L_divisor.l0 k x y) (Int.gcd x y:Int):=by
  refine Ev.succ (f:=fun k=>L_divisor.l0 k x y) ?_;simp only[L_divisor.l0,show ¬ y=0 by omega,if_false];rw[← gcd_step x y];exact divisor_l0 _ y (x.tmod y) (Nat.le_refl _) (by omega) (by omega)
 exact h
theorem Gcd_pos {x y:Int} (hx:x.natAbs≤9223372036854775808) (hy:0<y∧y≤9223372036854775807):Ev (fun k=>Bs_Gcd.f k x y) (Int.gcd x y:Int):=by
 have ht:=tmod_in (x:=x) (y:=y) (by omega);have h:Ev (fun k=>Bs_Gcd.l0 k x y) (Int.gcd x y:Int):=by
  refine Ev.succ (f:=fun k=>Bs_Gcd.l0 k x y) ?_;simp only[Bs_Gcd.l0,show ¬ y=0 by omega,if_false];rw[← gcd_step x y];exact Gcd_l0 _ y (x.tmod y) (Nat.le_refl _) (by omega) (by omega)
 exact h
theorem partErr_j0 (b:Bool) (n d:Int):Ev (fun k=>L_partErr.j0 k b n d) (if b=true then 3 else(if(0≤n∧n≤d)∧d≤1000000000 then 0 else 2)):=by
 refine Ev.succ (f:=fun k=>L_partErr.j0 k b n d) ?_;simp only[L_partErr.j0,within_eq,unless_eq,Option.bind_some,decide_eq_true_eq]
 by_cases hb:b=true
 ·simp only[hb,if_true];exact Ev.some
 ·simp only[hb,if_false]
  by_cases h:0≤n∧n≤d
  ·simp only[h,and_self,true_and,if_true];exact Ev.some
  ·simp only[h,false_and,if_false,Bool.false_eq_true];exact Ev.some
theorem partErr_ev {n d:Int} (hn: -9223372036854775808≤n∧n≤9223372036854775807) (hd: -9223372036854775808≤d∧d≤9223372036854775807):Ev (fun k=>L_partErr.f k n d) (ptE n d):=by
 unfold L_partErr.f ptE
 by_cases h0:d≤0
 ·simp only[h0,if_true,show ¬ 0<d by omega,false_and,if_false];exact partErr_j0 true n d
 ·simp only[h0,if_false,show 0<d by omega,true_and];refine Ev.bind (divisor_pos (by omega) (by omega)) ?_
  by_cases h1:Int.gcd n d=1
  ·simp only[h1,if_true];exact partErr_j0 _ n d
  ·simp only[h1,if_false];have:((Int.gcd n d:Int) != 1)=true:=by simp;omega
   rw[this];exact partErr_j0 true n d
theorem PartErr_ev {n d:Int} (hn: -9223372036854775808≤n∧n≤9223372036854775807) (hd: -9223372036854775808≤d∧d≤9223372036854775807):Ev (fun k=>Rf_PartErr.f k n d) (ptE n d):=by
 unfold Rf_PartErr.f Bs_IsLowest.f ptE
 by_cases h0:0<d
 ·simp only[gt_iff_lt,h0,if_true,true_and];refine Ev.bind (a:=decide (Int.gcd n d=1)) (Ev.bind (Gcd_pos (by omega) (by omega)) (by rw[show ((Int.gcd n d:Int)==1)=decide (Int.gcd n d=1) by rw[Bool.eq_iff_iff];simp;omega];exact Ev.some)) ?_;simp only[Within_eq,Option.bind_some,decide_eq_true_eq]
  by_cases h1:Int.gcd n d=1
  ·simp only[h1,if_true]
   by_cases h2:0≤n∧n≤d
   ·simp only[h2,and_self,true_and,if_true]
    by_cases h3:d≤1000000000
    ·rw [if_neg (by omega),if_pos h3];exact Ev.some
    ·rw [if_pos (by omega),if_neg h3];exact Ev.some
   ·simp only[h2,false_and,if_false];exact Ev.some
  ·simp only[h1,if_false];exact Ev.some
 ·simp only[gt_iff_lt,h0,if_false,false_and,Option.bind_some,Bool.false_eq_true];exact Ev.some
theorem ptE_ok {n d:Int} (h:ptE n d=0):0≤n∧n≤d∧0<d∧d≤1000000000∧Int.gcd n d=1:=by
 unfold ptE at h
 split at h
 ·split at h
  ·omega
  ·omega
 ·omega
theorem fnz2 (a b:Int):fnz [a,b]=if a=0 then b else a:=by
 unfold fnz fnz fnz;split
 ·split<;>simp_all
 ·rfl
theorem fnz3 (a b c:Int):fnz [a,b,c]=if a=0 then(if b=0 then c else b)else a:=by
 rw[fnz,fnz2]
theorem fnz4 (a b c d:Int):fnz [a,b,c,d]=if a=0 then(if b=0 then(if c=0 then d else c)else b)else a:=by
 rw[fnz,fnz3]
theorem ProfileErr_ev (l:List Int) (hl:l.length<4611686018427387904):Ev (fun k=>Rf_ProfileErr.f k l) (pE l).2:=by
 unfold Rf_ProfileErr.f;exact Ev.bind (RefCheckProfile_ev l hl) Ev.some
theorem cE_ok {c:Int} (h:cE c=0):1≤c∧c≤1000000:=by unfold cE at h;split at h<;>omega
def ip:List Int→Int
 | []=>1
 |x::r=>x*ip r
theorem ip_append (a b:List Int):ip (a++b)=ip a*ip b:=by
  induction a with
  |nil=>simp[ip]
  |cons x r ih=>simp only[List.cons_append,ip,ih,Int.mul_assoc]
theorem ip_pos:∀ {l:List Int},(∀ x∈l,0<x)→0<ip l
 | [],_=>by simp[ip]
 |x::r,h=>by
  simp only[ip];exact Int.mul_pos (h x List.mem_cons_self) (ip_pos (fun y hy=>h y (List.mem_cons_of_mem _ hy)))
def rdc:Int→List Int→Int×List Int
 |x,[]=>(x,[])
 |x,u::us=>((rdc (x / (Int.gcd x u:Int)) us).1,u / (Int.gcd x u:Int)::(rdc (x / (Int.gcd x u:Int)) us).2)
def rdcAll:List Int→List Int→List Int×List Int
 | [],us=>([],us)
 |o::os,us=>((rdc o us).1::(rdcAll os (rdc o us).2).1,(rdcAll os (rdc o us).2).2)
theorem gcd_pos2 {x u:Int} (h:0<x):0<(Int.gcd x u:Int):=by
 have:Int.gcd x u≠0:=by
  intro h0;have:=(Int.gcd_eq_zero_iff.mp h0).1
  omega
 omega
theorem div_gcd {x u:Int} (hx:0<x) (hu:0<u):0<x / (Int.gcd x u:Int)∧0<u / (Int.gcd x u:Int)∧x / (Int.gcd x u:Int)*u=x*(u / (Int.gcd x u:Int))∧Int.gcd (x / (Int.gcd x u:Int)) (u / (Int.gcd x u:Int))=1:=by
 have hg:=gcd_pos2 (x:=x) (u:=u) hx;obtain⟨a,ha⟩:=Int.gcd_dvd_left (a:=x) (b:=u);obtain⟨b,hb⟩:=Int.gcd_dvd_right (a:=x) (b:=u);have hgc:=Int.gcd_ediv_gcd_ediv_gcd_of_ne_zero_left (n:=x) (m:=u) (by omega);generalize (Int.gcd x u:Int)=g at *;have e1:x / g=a:=by rw[ha];exact Int.mul_ediv_cancel_left _ (by omega)
 have e2:u / g=b:=by rw[hb];exact Int.mul_ediv_cancel_left _ (by omega)
 have p1:0<a:=by
  rw[ha,Int.mul_comm]at hx;exact Int.pos_of_mul_pos_left hx hg
 have p2:0<b:=by
  rw[hb,Int.mul_comm]at hu;exact Int.pos_of_mul_pos_left hu hg
 rw[e1,e2];refine⟨p1,p2,?_,?_⟩
 ·rw [ha,hb,Int.mul_assoc,Int.mul_left_comm]
 ·rw [e1,e2]at hgc;exact hgc
theorem gcd_of_dvd {x y u:Int} (h:x∣y) (hu:Int.gcd y u=1):Int.gcd x u=1:=by
 have h1:x.natAbs∣y.natAbs:=Int.natAbs_dvd_natAbs.mpr h;exact Nat.Coprime.coprime_dvd_left h1 hu
theorem gcd_of_dvd_right {x u v:Int} (h:v∣u) (hu:Int.gcd x u=1):Int.gcd x v=1:=by
 have h1:v.natAbs∣u.natAbs:=Int.natAbs_dvd_natAbs.mpr h;exact Nat.Coprime.coprime_dvd_right h1 hu
theorem rdc_spec:∀ (us:List Int) (x:Int),0<x→(∀ u∈us,0<u)→
  0<(rdc x us).1∧(rdc x us).1∣x∧(rdc x us).2.length=us.length∧(∀ u∈(rdc x us).2,0<u)∧(rdc x us).1*ip us=x*ip (rdc x us).2∧(∀ u∈(rdc x us).2,Int.gcd (rdc x us).1 u=1)∧(∀ y:Int,(∀ u∈us,Int.gcd y u=1)→∀ u∈(rdc x us).2,Int.gcd y u=1)∧(∀ M:Int,(∀ u∈us,u≤M)→∀ u∈(rdc x us).2,u≤M)
 | [],x,hx,_=>by simp[rdc,hx,ip]
 | u::us,x,hx,hu=>by
  have hu0:=hu u List.mem_cons_self;obtain⟨d1,d2,d3,d4⟩:=div_gcd hx hu0;have hd1:x / (Int.gcd x u:Int)∣x:=Int.ediv_dvd_of_dvd (Int.gcd_dvd_left ..);have hd2:u / (Int.gcd x u:Int)∣u:=Int.ediv_dvd_of_dvd (Int.gcd_dvd_right ..);have hd3:u / (Int.gcd x u:Int)≤u:=Int.le_of_dvd hu0 hd2;obtain⟨r1,r2,r3,r4,r5,r6,r7,r8⟩:=rdc_spec us (x / (Int.gcd x u:Int)) d1 (fun v hv=>hu v (List.mem_cons_of_mem _ hv));simp only[rdc];generalize rdc (x / (Int.gcd x u:Int)) us=q at *;generalize (Int.gcd x u:Int)=g at *;refine⟨r1,Int.dvd_trans r2 hd1,by simp[r3],?_,?_,?_,?_,?_⟩
  ·intro v hv
   rcases List.mem_cons.mp hv with rfl|hv
   ·exact d2
   ·exact r4 v hv
  ·simp only[ip];rw[Int.mul_left_comm,r5, ←Int.mul_assoc,Int.mul_comm u,d3,Int.mul_assoc]
  ·intro v hv
   rcases List.mem_cons.mp hv with rfl|hv
   ·exact gcd_of_dvd r2 d4
   ·exact r6 v hv
  ·intro y hy v hv
   rcases List.mem_cons.mp hv with rfl|hv
   ·exact gcd_of_dvd_right hd2 (hy u List.mem_cons_self)
   ·exact r7 y (fun w hw=>hy w (List.mem_cons_of_mem _ hw)) v hv
  ·intro M hM v hv
   rcases List.mem_cons.mp hv with rfl|hv
   ·have:=hM u List.mem_cons_self;omega
   ·exact r8 M (fun w hw=>hM w (List.mem_cons_of_mem _ hw)) v hv
theorem rdcAll_spec:∀ (os us:List Int),(∀ o∈os,0<o)→(∀ u∈us,0<u)→
  (∀ o∈(rdcAll os us).1,0<o)∧(∀ u∈(rdcAll os us).2,0<u)∧ip (rdcAll os us).1*ip us=ip os*ip (rdcAll os us).2∧(∀ o∈(rdcAll os us).1,∀ u∈(rdcAll os us).2,Int.gcd o u=1)∧(∀ y:Int,(∀ u∈us,Int.gcd y u=1)→∀ u∈(rdcAll os us).2,Int.gcd y u=1)∧(∀ M:Int,(∀ u∈us,u≤M)→∀ u∈(rdcAll os us).2,u≤M)∧(∀ M:Int,(∀ o∈os,o≤M)→∀ o∈(rdcAll os us).1,o≤M)
 | [],us,_,hu=>by
  refine⟨by simp[rdcAll],hu,by simp[rdcAll],by simp[rdcAll],fun y hy=>hy,fun M h=>h,by simp[rdcAll]⟩
 | o::os,us,ho,hu=>by
  have ho0:=ho o List.mem_cons_self;obtain⟨r1,r2,r3,r4,r5,r6,r7,r8⟩:=rdc_spec us o ho0 hu;obtain⟨s1,s2,s3,s4,s5,s6,s7⟩:=rdcAll_spec os (rdc o us).2 (fun v hv=>ho v (List.mem_cons_of_mem _ hv)) r4;have hle:(rdc o us).1≤o:=Int.le_of_dvd ho0 r2;simp only[rdcAll];generalize rdcAll os (rdc o us).2=s at *;generalize rdc o us=q at *;refine⟨?_,s2,?_,?_,?_,?_,?_⟩
  ·intro v hv
   rcases List.mem_cons.mp hv with rfl|hv
   ·exact r1
   ·exact s1 v hv
  ·simp only[ip];have e:q.1*ip s.1*ip us=(q.1*ip us)*ip s.1:=by rw[Int.mul_assoc,Int.mul_assoc,Int.mul_comm (ip s.1)]
   rw[e,r5,Int.mul_assoc,Int.mul_comm (ip q.2),s3, ←Int.mul_assoc]
  ·intro v hv u hu'
   rcases List.mem_cons.mp hv with rfl|hv
   ·exact s5 q.1 r6 u hu'
   ·exact s4 v hv u hu'
  ·intro y hy;exact s5 y (r7 y hy)
  ·intro M hM;exact s6 M (r8 M hM)
  ·intro M hM v hv
   rcases List.mem_cons.mp hv with rfl|hv
   ·have:=hM o List.mem_cons_self;omega
   ·exact s7 M (fun w hw=>hM w (List.mem_cons_of_mem _ hw)) v hv
theorem gcd_ip_right (x:Int):∀ l:List Int,(∀ u∈l,Int.gcd x u=1)→Int.gcd x (ip l)=1
 | [],_=>by simp[ip]
 |u::l,h=>by
  have h1:=h u List.mem_cons_self;have h2:=gcd_ip_right x l (fun v hv=>h v (List.mem_cons_of_mem _ hv));simp only[ip,Int.gcd,Int.natAbs_mul]at *;exact Nat.Coprime.mul_right h1 h2
theorem gcd_ip (b:List Int):∀ l:List Int,(∀ o∈l,∀ u∈b,Int.gcd o u=1)→Int.gcd (ip l) (ip b)=1
 | [],_=>by simp[ip]
 |o::l,h=>by
  have h1:=gcd_ip_right o b (h o List.mem_cons_self);have h2:=gcd_ip b l (fun v hv=>h v (List.mem_cons_of_mem _ hv));simp only[ip,Int.gcd,Int.natAbs_mul]at *;exact Nat.Coprime.mul_left h1 h2
theorem lowest_one {a b c d:Int} (ha:0<a) (hc:0<c) (h1:Int.gcd a b=1) (h2:Int.gcd c d=1) (h:a*d=c*b):a=c∧b=d:=by
 have h3:a∣c:=by
  have:a∣c*b:=⟨d,h.symm⟩;rw[← Int.gcd_eq_natAbs_left_iff_dvd]at this;rw[Int.gcd_mul_left_right_of_gcd_eq_one h1]at this;rw[← Int.gcd_eq_natAbs_left_iff_dvd];first|exact this|(rw[Int.gcd_mul_right_right_of_gcd_eq_one h1]at this;exact this)
 have h4:c∣a:=by
  have:c∣a*d:=⟨b,h⟩;rw[← Int.gcd_eq_natAbs_left_iff_dvd]at this;rw[Int.gcd_mul_left_right_of_gcd_eq_one h2]at this;rw[← Int.gcd_eq_natAbs_left_iff_dvd];exact this
 have e:a=c:=Int.dvd_antisymm (by omega) (by omega) h3 h4;subst e;exact⟨rfl,(Int.eq_of_mul_eq_mul_left (by omega) h).symm⟩
def dv:List Int→Nat
 | []=>0
 |x::r=>x.toNat+1000000000*dv r
def DG (l:List Int):Prop:=∀ x∈l,0≤x∧x<1000000000
def dn (n:Nat):List Int:=if h:n=0 then []else((n % 1000000000:Nat):Int)::dn (n / 1000000000)
termination_by n
decreasing_by omega
theorem dn_zero:dn 0=[]:=by rw[dn];simp
theorem dn_pos {n:Nat} (h:n≠0):dn n=((n % 1000000000:Nat):Int)::dn (n / 1000000000):=by rw[dn];simp[h]
theorem DG_cons {x:Int} {r:List Int}:DG (x::r)↔(0≤x∧x<1000000000)∧DG r:=
 ⟨fun h=>⟨h x List.mem_cons_self,fun y hy=>h y (List.mem_cons_of_mem _ hy)⟩,fun h y hy=>by rcases List.mem_cons.1 hy with rfl|hy;exact h.1;exact h.2 y hy⟩
theorem DG_nil:DG []:=fun x hx=>by simp at hx
theorem DG_append {l m:List Int} (hl:DG l) (hm:DG m):DG (l++m):=fun x hx=>by
 rcases List.mem_append.1 hx with h|h
 ·exact hl x h
 ·exact hm x h
theorem dn_DG:∀ n:Nat,DG (dn n):=fun n=>by
 induction n using Nat.strongRecOn with
 |_ n ih=>
  by_cases h:n=0
  ·subst h;rw[dn_zero];exact DG_nil
  ·rw [dn_pos h,DG_cons];exact⟨by omega,ih _ (by omega)⟩
theorem dv_dn:∀ n:Nat,dv (dn n)=n:=fun n=>by
 induction n using Nat.strongRecOn with
 | _ n ih=>
  by_cases h:n=0
  ·subst h;rw[dn_zero];rfl
  ·rw [dn_pos h,dv,ih _ (by omega)]
   omega
theorem dv_append:∀ l m:List Int,dv (l++m)=dv l+1000000000 ^ l.length*dv m
 | [],m=>by simp[dv]
 |x::r,m=>by
  rw[List.cons_append,dv,dv,dv_append r m,List.length_cons,Nat.pow_succ,Nat.mul_add,Nat.mul_comm (1000000000 ^ r.length) 1000000000,Nat.mul_assoc]
  omega
theorem dv_last {m:List Int} {x:Int} (hx:0<x):0<dv (m++ [x]):=by
 rw[dv_append,dv,dv];have:0<1000000000 ^ m.length:=Nat.pow_pos (by omega);have h2:=Nat.mul_pos this (show 0<x.toNat+1000000000*0 by omega)
 omega
theorem dn_last:∀ (m:List Int) (x:Int),DG (m++ [x])→x≠0→dn (dv (m++ [x]))=m++ [x]
 | [],x,h,h0=>by
  have:=h x (by simp);rw[List.nil_append,dv,dv,dn_pos (by omega),show(x.toNat+1000000000*0) / 1000000000=0 by omega,dn_zero]
  congr 1
  omega
 |y::m,x,h,h0=>by
  rw[List.cons_append,DG_cons]at h;have hx:=h.2 x (by simp);have hp:=dv_last (m:=m) (x:=x) (by omega);rw[List.cons_append,dv,dn_pos (by omega),show(y.toNat+1000000000*dv (m++ [x])) / 1000000000=dv (m++ [x]) by omega,dn_last m x h.2 h0]
  congr 1
  omega
theorem dv_lt:∀ {l:List Int},DG l→dv l<1000000000 ^ l.length
 | [],_=>by simp[dv]
 |x::r,h=>by
  rw[DG_cons]at h;have:=dv_lt h.2;rw[dv,List.length_cons,Nat.pow_succ]
  omega
theorem dn_len {n L:Nat} (h:n<1000000000 ^ L):(dn n).length≤L:=by
  induction L generalizing n with
  |zero=>simp at h;subst h;rw[dn_zero];exact Nat.le_refl _
  | succ L ih=>
    by_cases h0:n=0
    · subst h0;rw[dn_zero];exact Nat.zero_le _
    · rw[dn_pos h0,List.length_cons];have:=ih (n:=n / 1000000000) (by rw[Nat.pow_succ]at h;omega)
      omega
theorem dn_big {n:Nat} (h:n≠0):1000000000 ^ (dn n).length≤1000000000*n:=by
 induction n using Nat.strongRecOn with
 | _ n ih=>
  rw[dn_pos h,List.length_cons,Nat.pow_succ]
  by_cases h1:n / 1000000000=0
  ·rw [h1,dn_zero];simp;omega
  ·have:=ih (n / 1000000000) (by omega) h1
   omega
theorem dn_nil {n:Nat}:(dn n).length=0↔n=0:=by
 constructor
 ·intro h
  rcases Nat.eq_zero_or_pos n with h0|h0
  ·exact h0
  ·rw [dn_pos (by omega)]at h;simp at h
 ·rintro rfl;rw[dn_zero];rfl
theorem dn_mono {m n:Nat} (h:m≤n):(dn m).length≤(dn n).length:=dn_len (by have:=dv_lt (dn_DG n);rw[dv_dn]at this;omega)
theorem rd_D {l:List Int} (h:DG l) (i:Nat):0≤rd l (i:Int)∧rd l (i:Int)<1000000000:=by
 rw[rd_nat,List.getD_eq_getElem?_getD]
 rcases Nat.lt_or_ge i l.length with hi|hi
 ·rw [List.getElem?_eq_getElem hi];exact h _ (List.getElem_mem hi)
 ·rw [List.getElem?_eq_none hi];simp
theorem rd_out {l:List Int} {i:Nat} (h:l.length≤i):rd l (i:Int)=0:=by
 rw[rd_nat,List.getD_eq_getElem?_getD,List.getElem?_eq_none h];rfl
theorem dv_drop (l:List Int) (i:Nat):dv (l.drop i)=(rd l (i:Int)).toNat+1000000000*dv (l.drop (i+1)):=by
 rcases Nat.lt_or_ge i l.length with hi|hi
 ·rw [drop_rd hi,dv]
 ·rw [List.drop_eq_nil_of_le hi,List.drop_eq_nil_of_le (by omega),rd_out hi];rfl
theorem take_rd {l:List Int} {n:Nat} (h:n<l.length):l.take (n+1)=l.take n++ [rd l (n:Int)]:=by
 rw[rd_nat,List.getD_eq_getElem?_getD,List.getElem?_eq_getElem h,List.take_add_one,List.getElem?_eq_getElem h];rfl
theorem dv_take {l:List Int} {n:Nat} (h:n<l.length):dv (l.take (n+1))=dv (l.take n)+1000000000 ^ n*(rd l (n:Int)).toNat:=by
 rw[take_rd h,dv_append,List.length_take,Nat.min_eq_left (by omega)];rfl
theorem DG_take {l:List Int} (h:DG l) (n:Nat):DG (l.take n):=fun x hx=>h x (List.mem_of_mem_take hx)
theorem trimmed_l0 {l:List Int} (hD:DG l) (hl:l.length<4611686018427387904):∀ n:Nat,n≤l.length→Ev (fun k=>Bs_trimmed.l0 k l (n:Int)) (dn (dv (l.take n)))
 |0,_=>by
  refine Ev.succ (f:=fun k=>Bs_trimmed.l0 k l ((0:Nat):Int)) ?_;simp only[Bs_trimmed.l0,show ¬ ((0:Nat):Int)>0 by decide,show(0:Int)≤((0:Nat):Int) by decide,show((0:Nat):Int)≤(l.length:Int) by omega,if_true,if_false];rw[List.take_zero,dv,dn_zero];simp only[Int.toNat_natCast,List.take_zero];exact Ev.some
 | n+1,h=>by
  refine Ev.succ (f:=fun k=>Bs_trimmed.l0 k l ((n+1:Nat):Int)) ?_;have w:wrap64 (((n+1:Nat):Int)-1)=(n:Int):=by unfold wrap64;omega
  have hd:=rd_D hD n;simp only[Bs_trimmed.l0,show((n+1:Nat):Int)>0 by omega,w,show(0:Int)≤(n:Int) by omega,show(n:Int)<(l.length:Int) by omega,show(0:Int)≤((n+1:Nat):Int) by omega,show((n+1:Nat):Int)≤(l.length:Int) by omega,if_true]
  by_cases h0:rd l (n:Int)=0
  ·simp only[h0,if_true];have:=trimmed_l0 hD hl n (by omega);rw[dv_take (by omega),h0]
   simpa using this
  ·simp only[h0,if_false];rw[take_rd (by omega),dn_last _ _ (by rw[← take_rd (by omega)];exact DG_take hD _) h0, ←take_rd (by omega)];simp only[Int.toNat_natCast];exact Ev.some
theorem trimmed_ev {l:List Int} (hD:DG l) (hl:l.length<4611686018427387904):Ev (fun k=>Bs_trimmed.f k l) (dn (dv l)):=by
 have:=trimmed_l0 hD hl l.length (Nat.le_refl _);rw[List.take_length]at this;exact this
theorem wideOf_ev (s:Int) {l:List Int} (hD:DG l) (hl:l.length<4611686018427387904):Ev (fun k=>Bs_wideOf.f k s l) (if dv l=0 then 0 else s,dn (dv l)):=by
 unfold Bs_wideOf.f;refine Ev.bind (trimmed_ev hD hl) ?_
 by_cases h:dv l=0
 ·have:((dn (dv l)).length:Int)=0:=by rw[dn_nil.2 h];rfl
  rw[if_pos h];simp only[this,if_true];exact Ev.some
 ·have:¬ ((dn (dv l)).length:Int)=0:=fun e=>h (dn_nil.1 (by omega));rw[if_neg h];simp only[this,if_false];exact Ev.some

def sg (z:Int):Int:=if z<0 then -1 else if z=0 then 0 else 1
def wd (z:Int):Int×List Int:=(sg z,dn z.natAbs)
theorem sg_in (z:Int):sg z= -1∨sg z=0∨sg z=1:=by unfold sg;split<;>(try split)<;>simp
theorem sg_zero {z:Int}:sg z=0↔z=0:=by unfold sg;split<;>(try split)<;>omega
theorem sg_neg {z:Int} (h:z<0):sg z= -1:=if_pos h
theorem sg_pos {z:Int} (h:0<z):sg z=1:=by unfold sg;rw[if_neg (by omega),if_neg (by omega)]
theorem wd_of (s:Int) (n:Nat):(s=1∨s= -1)→((if n=0 then(0:Int)else s),dn n)=wd (s*n):=by
 rintro(rfl|rfl)
 ·unfold wd sg
  by_cases h:n=0
  ·subst h;simp
  ·simp [h]<;>omega
 ·unfold wd sg
  by_cases h:n=0
  ·subst h;simp
  ·simp [h]<;>omega
theorem Size_abs {x:Int} (h: -9223372036854775807≤x∧x≤9223372036854775807):Bs_Size.f x=some (x.natAbs:Int):=by
 rw[Size_eq,w64 (by omega)]
 congr 1
 unfold mx
 split<;>omega
theorem WideOf_l0 (s:Int):∀ (m:Nat) (x:Int) (acc:List Int),x.natAbs<1000000000 ^ m→(-9223372036854775808≤x∧x≤9223372036854775807)→acc.length+m≤3→DG acc→
  Ev (fun k=>Bs_WideOf.l0 k x s acc) (if dv (acc++dn x.natAbs)=0 then 0 else s,dn (dv (acc++dn x.natAbs)))
 |0,x,acc,hx,_,ha,hD=>by
  obtain rfl:x=0:=by simp at hx;omega
  refine Ev.succ (f:=fun k=>Bs_WideOf.l0 k 0 s acc) ?_;simp only[Bs_WideOf.l0,if_true,Int.natAbs_zero,dn_zero,List.append_nil];exact Ev.bind (wideOf_ev s hD (by omega)) Ev.some
 | m+1,x,acc,hx,hi,ha,hD=>by
  refine Ev.succ (f:=fun k=>Bs_WideOf.l0 k x s acc) ?_
  by_cases h0:x=0
  ·subst h0;simp only[Bs_WideOf.l0,if_true,Int.natAbs_zero,dn_zero,List.append_nil];exact Ev.bind (wideOf_ev s hD (by omega)) Ev.some
  ·have e1:((Int.tmod x 1000000000).natAbs:Int)=((x.natAbs % 1000000000:Nat):Int):=by rw[Int.natAbs_tmod];rfl
   have e2:(Int.tdiv x 1000000000).natAbs=x.natAbs / 1000000000:=by rw[Int.natAbs_tdiv];rfl
   have hm: -9223372036854775807≤Int.tmod x 1000000000∧Int.tmod x 1000000000≤9223372036854775807:=by omega
   have hq: -9223372036854775808≤Int.tdiv x 1000000000∧Int.tdiv x 1000000000≤9223372036854775807:=by omega
   simp only[Bs_WideOf.l0,h0,if_false];rw[Size_abs hm,w64 hq,e1];simp only[Option.bind_some,show acc.length<17592186044416 by omega,if_true];have:=WideOf_l0 s m (Int.tdiv x 1000000000) (acc++ [((x.natAbs % 1000000000:Nat):Int)]) (by rw[e2];rw[Nat.pow_succ]at hx;omega) hq (by simp;omega) (DG_append hD (fun y hy=>by simp at hy;omega));rw[e2,List.append_assoc,List.singleton_append, ←dn_pos (show x.natAbs≠0 by omega)]at this;exact this
theorem big3 {x:Int} (h: -9223372036854775808≤x∧x≤9223372036854775807):x.natAbs<1000000000 ^ 3:=by
 have:(1000000000:Nat) ^ 3=1000000000000000000000000000:=by decide
 omega
theorem WideOf_ev {x:Int} (h: -9223372036854775808≤x∧x≤9223372036854775807):Ev (fun k=>Bs_WideOf.f k x) (wd x):=by
 unfold Bs_WideOf.f;have key:∀ s:Int,Ev (fun k=>Bs_WideOf.j0 k x s) (if x.natAbs=0 then 0 else s,dn x.natAbs):=fun s=>by
  refine Ev.succ (f:=fun k=>Bs_WideOf.j0 k x s) ?_;simp only[Bs_WideOf.j0];have:=WideOf_l0 s 3 x [] (big3 h) h (by simp) DG_nil;rw[List.nil_append,dv_dn]at this;exact this
 by_cases hx:x<0
 ·simp only[hx,if_true];have:=key (-1);rw[wd_of _ _ (.inr rfl),show(-1:Int)*(x.natAbs:Int)=x by omega]at this;exact this
 ·simp only[hx,if_false];have:=key 1;rw[wd_of _ _ (.inl rfl),show(1:Int)*(x.natAbs:Int)=x by omega]at this;exact this
theorem WideNeg_eq (z:Int):Bs_WideNeg.f (wd z).1 (wd z).2=some (wd (-z)):=by
 unfold Bs_WideNeg.f wd;rw[Int.natAbs_neg]
 congr 2
 unfold sg wrap64
 split<;>(try split)<;>(try split)<;>(try split)<;>omega
theorem wideSize_eq (z:Int):Bs_wideSize.f (wd z).1 (wd z).2=some (wd (z.natAbs:Int)):=by
 unfold Bs_wideSize.f
 by_cases h:z<0
 ·have:(wd z).1<0:=by show sg z<0;unfold sg;rw[if_pos h];decide
  simp only[this,if_true];rw[WideNeg_eq];simp only[Option.bind_some];rw[show ((z.natAbs:Nat):Int)= -z by omega]
 ·have:¬ (wd z).1<0:=by show ¬ sg z<0;unfold sg;rw[if_neg h];split<;>decide
  simp only[this,if_false];rw[show ((z.natAbs:Nat):Int)=z by omega]
theorem digit_eq (l:List Int) (i:Nat):Bs_digit.f l (i:Int)=some (rd l (i:Int)):=by
 unfold Bs_digit.f
 by_cases h:(i:Int)<(l.length:Int)
 ·simp only[h,show(0:Int)≤(i:Int) by omega,if_true]
 ·simp only[h,if_false];rw[rd_out (by omega)]

theorem addDigits_l0 {a b:List Int} (ha:DG a) (hb:DG b) (M:Nat) (hM:M<17592186044410) (la:a.length≤M) (lb:b.length≤M):∀ (d i:Nat) (acc:List Int) (c:Int),M+1≤i+d→i≤M+1→acc.length=i→(0≤c∧c≤1)→(M<i→c=0)→
  ∃ m,Ev (fun k=>Bs_addDigits.l0 k a b acc c (i:Int)) (acc++m)∧DG m∧dv m=dv (a.drop i)+dv (b.drop i)+c.toNat∧m.length+i≤M+1:=by
 intro d
 induction d with
 |zero=>
  intro i acc c h hi hacc hc h0;obtain rfl:c=0:=h0 (by omega);refine⟨[],?_,DG_nil,?_,by simp;omega⟩
  ·refine Ev.succ (f:=fun k=>Bs_addDigits.l0 k a b acc 0 (i:Int)) ?_;simp only[Bs_addDigits.l0,show ¬ (i:Int)<(a.length:Int) by omega,show ¬ (i:Int)<(b.length:Int) by omega,if_false,show decide ((0:Int)>0)=false by decide];refine Ev.succ (f:=fun k=>Bs_addDigits.j1 k a b acc 0 (i:Int) false) ?_;simp only[Bs_addDigits.j1,Bool.false_eq_true,if_false,List.append_nil];exact Ev.some
  ·rw [List.drop_eq_nil_of_le (by omega),List.drop_eq_nil_of_le (by omega)];rfl
 | succ d ih=>
  intro i acc c h hi hacc hc h0;have hx:=rd_D ha i;have hy:=rd_D hb i;have hstop:¬ ((i:Int)<(a.length:Int))→¬ ((i:Int)<(b.length:Int))→¬ c>0→∃ m,Ev (fun k=>Bs_addDigits.l0 k a b acc c (i:Int)) (acc++m)∧DG m∧dv m=dv (a.drop i)+dv (b.drop i)+c.toNat∧m.length+i≤M+1:=fun h1 h2 h3=>by
   obtain rfl:c=0:=by omega
   refine⟨[],?_,DG_nil,?_,by simp;omega⟩
   ·refine Ev.succ (f:=fun k=>Bs_addDigits.l0 k a b acc 0 (i:Int)) ?_;simp only[Bs_addDigits.l0,h1,h2,if_false,show decide ((0:Int)>0)=false by decide];refine Ev.succ (f:=fun k=>Bs_addDigits.j1 k a b acc 0 (i:Int) false) ?_;simp only[Bs_addDigits.j1,Bool.false_eq_true,if_false,List.append_nil];exact Ev.some
   ·rw [List.drop_eq_nil_of_le (by omega),List.drop_eq_nil_of_le (by omega)];rfl
  have hgo:(i:Int)<(a.length:Int)∨(i:Int)<(b.length:Int)∨c>0→∃ m,Ev (fun k=>Bs_addDigits.j1 k a b acc c (i:Int) true) (acc++m)∧DG m∧dv m=dv (a.drop i)+dv (b.drop i)+c.toNat∧m.length+i≤M+1:=fun hg=>by
   have hiM:i≤M:=by
    rcases hg with h1|h1|h1
    ·omega
    ·omega
    ·rcases Nat.lt_or_ge M i with h2|h2
     ·have:=h0 h2;omega
     ·exact h2
   have hs:0≤rd a (i:Int)+rd b (i:Int)+c∧rd a (i:Int)+rd b (i:Int)+c≤1999999999:=by omega
   have hl:M<i+1→rd a (i:Int)=0∧rd b (i:Int)=0:=fun h1=>⟨rd_out (by omega),rd_out (by omega)⟩;obtain⟨m,hm,dm,vm,lm⟩:=ih (i+1) (acc++ [(rd a (i:Int)+rd b (i:Int)+c) % 1000000000]) ((rd a (i:Int)+rd b (i:Int)+c) / 1000000000) (by omega) (by omega) (by simp;omega) (by omega) (fun h1=>by have:=hl h1;omega);refine⟨(rd a (i:Int)+rd b (i:Int)+c) % 1000000000::m,?_,DG_cons.2 ⟨by omega,dm⟩,?_,by simp;omega⟩
   ·refine Ev.succ (f:=fun k=>Bs_addDigits.j1 k a b acc c (i:Int) true) ?_;simp only[Bs_addDigits.j1,if_true,digit_eq,Option.bind_some,show acc.length<17592186044416 by omega,up (show i<4611686018427387904 by omega)];rw[w64 (n:=rd a (i:Int)+rd b (i:Int)) (by omega),w64 (n:=rd a (i:Int)+rd b (i:Int)+c) (by omega),Int.tdiv_eq_ediv_of_nonneg hs.1,Int.tmod_eq_emod_of_nonneg hs.1,w64 (by omega)];rw[List.append_assoc,List.singleton_append]at hm;exact hm
   ·rw [dv,vm,dv_drop a i,dv_drop b i]
    omega
  by_cases h1:(i:Int)<(a.length:Int)
  ·obtain ⟨m,hm,r⟩:=hgo (.inl h1);refine⟨m,?_,r⟩;refine Ev.succ (f:=fun k=>Bs_addDigits.l0 k a b acc c (i:Int)) ?_;simp only[Bs_addDigits.l0,h1,if_true];exact hm
  ·by_cases h2:(i:Int)<(b.length:Int)
   ·obtain ⟨m,hm,r⟩:=hgo (.inr (.inl h2));refine⟨m,?_,r⟩;refine Ev.succ (f:=fun k=>Bs_addDigits.l0 k a b acc c (i:Int)) ?_;simp only[Bs_addDigits.l0,h1,h2,if_true,if_false];exact hm
   ·by_cases h3:c>0
    ·obtain ⟨m,hm,r⟩:=hgo (.inr (.inr h3));refine⟨m,?_,r⟩;refine Ev.succ (f:=fun k=>Bs_addDigits.l0 k a b acc c (i:Int)) ?_;simp only[Bs_addDigits.l0,h1,h2,if_false,show decide (c>0)=true from decide_eq_true h3];exact hm
    ·exact hstop h1 h2 h3
theorem addDigits_ev {a b:List Int} (ha:DG a) (hb:DG b) (M:Nat) (hM:M<17592186044410) (la:a.length≤M) (lb:b.length≤M):∃ m,Ev (fun k=>Bs_addDigits.f k a b) m∧DG m∧dv m=dv a+dv b∧m.length≤M+1:=by
 obtain⟨m,hm,dm,vm,lm⟩:=addDigits_l0 ha hb M hM la lb (M+1) 0 [] 0 (by omega) (by omega) rfl (by decide) (by omega);exact⟨m,by simpa [Bs_addDigits.f]using hm,dm,by simpa using vm,by omega⟩
theorem subDigits_l0 {a b:List Int} (ha:DG a) (hb:DG b) (la:a.length<17592186044410):∀ (d i:Nat) (acc:List Int) (c:Int),i+d=a.length→acc.length=i→DG acc→(0≤c∧c≤1)→dv (b.drop i)+c.toNat≤dv (a.drop i)→
  ∃ m,Ev (fun k=>Bs_subDigits.l0 k a b acc c (i:Int)) (dn (dv (acc++m)))∧dv m+dv (b.drop i)+c.toNat=dv (a.drop i):=by
 intro d
 induction d with
 |zero=>
  intro i acc c h hacc hD hc hle;rw[List.drop_eq_nil_of_le (show a.length≤i by omega)]at hle ⊢;rw[dv]at hle ⊢;refine⟨[],?_,by rw[dv];omega⟩;refine Ev.succ (f:=fun k=>Bs_subDigits.l0 k a b acc c (i:Int)) ?_;simp only[Bs_subDigits.l0,show ¬ (i:Int)<(a.length:Int) by omega,if_false,List.append_nil];exact Ev.bind (trimmed_ev hD (by omega)) Ev.some
 | succ d ih=>
  intro i acc c h hacc hD hc hle;have hx:=rd_D ha i;have hy:=rd_D hb i;rw[dv_drop a i,dv_drop b i]at hle ⊢;have hgo:∀ x c':Int,(0≤x∧x<1000000000)→(0≤c'∧c'≤1)→x-1000000000*c'=rd a (i:Int)-rd b (i:Int)-c→
    ∃ m,Ev (fun k=>Bs_subDigits.l0 k a b (acc++ [x]) c' ((i+1:Nat):Int)) (dn (dv (acc++m)))∧dv m+((rd b (i:Int)).toNat+1000000000*dv (b.drop (i+1)))+c.toNat=(rd a (i:Int)).toNat+1000000000*dv (a.drop (i+1)):=fun x c' hx' hc' he=>by
   obtain⟨m,hm,vm⟩:=ih (i+1) (acc++ [x]) c' (by omega) (by simp;omega) (DG_append hD (fun y hy=>by simp at hy;omega)) hc' (by omega);refine⟨x::m,?_,by rw[dv];omega⟩;rw[List.append_assoc,List.singleton_append]at hm;exact hm
  by_cases hs:rd a (i:Int)-rd b (i:Int)-c<0
  ·obtain ⟨m,hm,vm⟩:=hgo (rd a (i:Int)-rd b (i:Int)-c+1000000000) 1 (by omega) (by omega) (by omega);refine⟨m,?_,vm⟩;refine Ev.succ (f:=fun k=>Bs_subDigits.l0 k a b acc c (i:Int)) ?_;simp only[Bs_subDigits.l0,show(i:Int)<(a.length:Int) by omega,show(0:Int)≤(i:Int) by omega,if_true,digit_eq,Option.bind_some,show acc.length<17592186044416 by omega,up (show i<4611686018427387904 by omega)];rw[w64 (n:=rd a (i:Int)-rd b (i:Int)) (by omega),w64 (n:=rd a (i:Int)-rd b (i:Int)-c) (by omega),w64 (n:=rd a (i:Int)-rd b (i:Int)-c+1000000000) (by omega)];simp only[hs,if_true];exact hm
  ·obtain ⟨m,hm,vm⟩:=hgo (rd a (i:Int)-rd b (i:Int)-c) 0 (by omega) (by omega) (by omega);refine⟨m,?_,vm⟩;refine Ev.succ (f:=fun k=>Bs_subDigits.l0 k a b acc c (i:Int)) ?_;simp only[Bs_subDigits.l0,show(i:Int)<(a.length:Int) by omega,show(0:Int)≤(i:Int) by omega,if_true,digit_eq,Option.bind_some,show acc.length<17592186044416 by omega,up (show i<4611686018427387904 by omega)];rw[w64 (n:=rd a (i:Int)-rd b (i:Int)) (by omega),w64 (n:=rd a (i:Int)-rd b (i:Int)-c) (by omega)];simp only[hs,if_false];exact hm
theorem subDigits_ev {a b:List Int} (ha:DG a) (hb:DG b) (la:a.length<17592186044410) (h:dv b≤dv a):Ev (fun k=>Bs_subDigits.f k a b) (dn (dv a-dv b)):=by
 obtain⟨m,hm,vm⟩:=subDigits_l0 ha hb la a.length 0 [] 0 (by omega) rfl DG_nil (by decide) (by simpa using h);simp only[List.drop_zero,List.nil_append]at hm vm;rw[show dv m=dv a-dv b by simp at vm;omega]at hm;exact hm

def cmpN (m n:Nat):Int:=if m<n then -1 else if n<m then 1 else 0
theorem pow_lt {p q x y P:Nat} (hp:p<P) (h:x<y):p+P*x<q+P*y:=by
 have:=Nat.mul_le_mul_left P (show x+1≤y by omega);rw[Nat.mul_add,Nat.mul_one]at this
 omega
theorem cmpDigits_l0 {a b:List Int} (ha:DG a) (hb:DG b) (hab:a.length=b.length) (hl:a.length<4611686018427387904):∀ n:Nat,n≤a.length→
  Ev (fun k=>Bs_cmpDigits.l0 k a b ((n:Int)-1)) (cmpN (dv (a.take n)) (dv (b.take n)))
 |0,_=>by
  refine Ev.succ (f:=fun k=>Bs_cmpDigits.l0 k a b (((0:Nat):Int)-1)) ?_;simp only[Bs_cmpDigits.l0,show ¬ (((0:Nat):Int)-1)≥0 by decide,if_false,List.take_zero];exact Ev.some
 | n +1,h=>by
  refine Ev.succ (f:=fun k=>Bs_cmpDigits.l0 k a b (((n+1:Nat):Int)-1)) ?_;have hx:=rd_D ha n;have hy:=rd_D hb n;have pa:=dv_lt (DG_take ha n);have pb:=dv_lt (DG_take hb n);rw[List.length_take,Nat.min_eq_left (by omega)]at pa pb;simp only[show ((n+1:Nat):Int)-1=(n:Int) by omega];simp only[Bs_cmpDigits.l0,show(n:Int)≥0 by omega,show(0:Int)≤(n:Int) by omega,show(n:Int)<(a.length:Int) by omega,show(n:Int)<(b.length:Int) by omega,if_true];rw[dv_take (by omega),dv_take (by omega)]
  by_cases h1:rd a (n:Int)<rd b (n:Int)
  ·simp only[h1,if_true];have:=pow_lt (q:=dv (b.take n)) pa (show(rd a (n:Int)).toNat<(rd b (n:Int)).toNat by omega);rw[cmpN,if_pos this];exact Ev.some
  ·by_cases h2:rd a (n:Int)>rd b (n:Int)
   ·simp only[h1,h2,if_true,if_false];have:=pow_lt (q:=dv (a.take n)) pb (show(rd b (n:Int)).toNat<(rd a (n:Int)).toNat by omega);rw[cmpN,if_neg (by omega),if_pos this];exact Ev.some
   ·simp only[h1,h2,if_false];have ih:=cmpDigits_l0 ha hb hab hl n (by omega);rw[w64 (by omega)];have e:rd a (n:Int)=rd b (n:Int):=by omega
    rw[e];have:cmpN (dv (a.take n)+1000000000 ^ n*(rd b (n:Int)).toNat) (dv (b.take n)+1000000000 ^ n*(rd b (n:Int)).toNat)=cmpN (dv (a.take n)) (dv (b.take n)):=by
     unfold cmpN;simp only[Nat.add_lt_add_iff_right]
    rw[this];exact ih
theorem cmpDigits_ev {m n:Nat} (hm:(dn m).length<4611686018427387904):Ev (fun k=>Bs_cmpDigits.f k (dn m) (dn n)) (cmpN m n):=by
 have bm:=dv_lt (dn_DG m);have bn:=dv_lt (dn_DG n);rw[dv_dn]at bm bn;have short:∀ {x y:Nat},(dn x).length<(dn y).length→x<1000000000 ^ (dn x).length→x<y:=fun {x y} h hx=>by
  have hy:y≠0:=fun e=>by subst e;rw[dn_zero]at h;simp at h
  have b:=dn_big hy;have p:=Nat.pow_le_pow_right (show 1000000000>0 by decide) (show(dn x).length+1≤(dn y).length from h);rw[Nat.pow_succ]at p
  omega
 unfold Bs_cmpDigits.f
 by_cases h:((dn m).length:Int)=((dn n).length:Int)
 ·simp only[h,if_true];have:=cmpDigits_l0 (dn_DG m) (dn_DG n) (by omega) hm (dn m).length (Nat.le_refl _);rw[List.take_length,show(dn m).length=(dn n).length by omega,List.take_length,dv_dn,dv_dn]at this;rw[w64 (by omega)];exact this
 ·by_cases h1:((dn m).length:Int)<((dn n).length:Int)
  ·simp only[h,h1,if_true,if_false];have:=short (x:=m) (y:=n) (by omega) bm;rw[cmpN,if_pos this];exact Ev.some
  ·simp only[h,h1,if_false];have:=short (x:=n) (y:=m) (by omega) bn;rw[cmpN,if_neg (by omega),if_pos this];exact Ev.some
theorem WideAdd_ev {a b:Int} (ha:(dn a.natAbs).length<1000000000) (hb:(dn b.natAbs).length<1000000000):Ev (fun k=>Bs_WideAdd.f k (wd a).1 (wd a).2 (wd b).1 (wd b).2) (wd (a+b)):=by
 unfold Bs_WideAdd.f
 by_cases h1:a=0
 ·subst h1;rw[Int.zero_add];simp only[show (wd 0).1=0 from rfl,if_true];exact Ev.some
 ·have s1:¬ (wd a).1=0:=fun e=>h1 (sg_zero.1 e)
  by_cases h2:b=0
  ·subst h2;rw[Int.add_zero];simp only[s1,show(wd 0).1=0 from rfl,if_true,if_false];exact Ev.some
  ·have s2:¬ (wd b).1=0:=fun e=>h2 (sg_zero.1 e);simp only[s1,s2,if_false]
   by_cases h3:(wd a).1=(wd b).1
   ·simp only[h3,if_true];obtain⟨m,hm,dm,vm,lm⟩:=addDigits_ev (dn_DG a.natAbs) (dn_DG b.natAbs) 1000000000 (by omega) (by omega) (by omega);refine Ev.bind hm ?_;have hw:=wideOf_ev (wd b).1 dm (by omega);rw[vm,dv_dn,dv_dn,wd_of _ _ (by rcases sg_in b with e|e|e;exact .inr e;exact absurd e s2;exact .inl e)]at hw;refine Ev.bind hw ?_;have:(wd b).1*((a.natAbs+b.natAbs:Nat):Int)=a+b:=by
     have h4:sg a=sg b:=h3
     show sg b*_=_
     rcases Int.lt_or_lt_of_ne h1 with pa|pa<;>rcases Int.lt_or_lt_of_ne h2 with pb|pb
     ·rw [sg_neg pb];omega
     ·rw [sg_neg pa,sg_pos pb]at h4;omega
     ·rw [sg_pos pa,sg_neg pb]at h4;omega
     ·rw [sg_pos pb];omega
    rw[this];exact Ev.some
   ·simp only[h3,if_false];refine Ev.bind (cmpDigits_ev (by omega)) ?_;have hopp:(wd a).1=1∧(wd b).1= -1∧0<a∧b<0∨(wd a).1= -1∧(wd b).1=1∧a<0∧0<b:=by
     have h4:¬ sg a=sg b:=h3
     show sg a=1∧sg b= -1∧_∨sg a= -1∧sg b=1∧_
     rcases Int.lt_or_lt_of_ne h1 with pa|pa<;>rcases Int.lt_or_lt_of_ne h2 with pb|pb
     ·exact absurd ((sg_neg pa).trans (sg_neg pb).symm) h4
     ·exact .inr ⟨sg_neg pa,sg_pos pb,pa,pb⟩
     ·exact .inl ⟨sg_pos pa,sg_neg pb,pa,pb⟩
     ·exact absurd ((sg_pos pa).trans (sg_pos pb).symm) h4
    rcases Nat.lt_trichotomy a.natAbs b.natAbs with hlt|heq|hgt
    ·have c:cmpN a.natAbs b.natAbs= -1:=if_pos hlt;simp only[c,show ¬ (-1:Int)=0 by decide,show ¬ (-1:Int)>0 by decide,if_false];have hs:=subDigits_ev (dn_DG b.natAbs) (dn_DG a.natAbs) (by omega) (by rw[dv_dn,dv_dn];omega);rw[dv_dn,dv_dn]at hs;refine Ev.bind hs ?_;have hw:=wideOf_ev (wd b).1 (dn_DG (b.natAbs-a.natAbs)) (by have:=dn_mono (show b.natAbs-a.natAbs≤b.natAbs by omega);omega);rw[dv_dn,wd_of _ _ (by rcases hopp with e|e<;>simp[e.2.1]),show(wd b).1*((b.natAbs-a.natAbs:Nat):Int)=a+b by rcases hopp with e|e<;>rw[e.2.1]<;>omega]at hw
     exact Ev.bind hw Ev.some
    ·have c:cmpN a.natAbs b.natAbs=0:=by unfold cmpN;rw[if_neg (by omega),if_neg (by omega)]
     simp only[c,if_true];rw[show a+b=0 by omega,show wd 0=(0,[]) by unfold wd sg;simp[dn_zero]];exact Ev.some
    ·have c:cmpN a.natAbs b.natAbs=1:=by unfold cmpN;rw[if_neg (by omega),if_pos hgt]
     simp only[c,show ¬ (1:Int)=0 by decide,show(1:Int)>0 by decide,if_true,if_false];have hs:=subDigits_ev (dn_DG a.natAbs) (dn_DG b.natAbs) (by omega) (by rw[dv_dn,dv_dn];omega);rw[dv_dn,dv_dn]at hs;refine Ev.bind hs ?_;have hw:=wideOf_ev (wd a).1 (dn_DG (a.natAbs-b.natAbs)) (by have:=dn_mono (show a.natAbs-b.natAbs≤a.natAbs by omega);omega);rw[dv_dn,wd_of _ _ (by rcases hopp with e|e<;>simp[e.1]),show(wd a).1*((a.natAbs-b.natAbs:Nat):Int)=a+b by rcases hopp with e|e<;>rw[e.1]<;>omega]at hw
     exact Ev.bind hw Ev.some
theorem WideSub_ev {a b:Int} (ha:(dn a.natAbs).length<1000000000) (hb:(dn b.natAbs).length<1000000000):Ev (fun k=>Bs_WideSub.f k (wd a).1 (wd a).2 (wd b).1 (wd b).2) (wd (a-b)):=by
 unfold Bs_WideSub.f;rw[WideNeg_eq];simp only[Option.bind_some];exact Ev.bind (WideAdd_ev ha (by rw[Int.natAbs_neg];exact hb)) Ev.some
theorem DG_set {l:List Int} (h:DG l) (p:Nat) {x:Int} (hx:0≤x∧x<1000000000):DG (l.set p x):=fun y hy=>by
 rcases List.mem_or_eq_of_mem_set hy with h'|rfl
 ·exact h y h'
 ·exact hx
theorem rd_set {l:List Int} {p:Nat} (hp:p<l.length) (x:Int) (q:Nat):rd (l.set p x) (q:Int)=if p=q then x else rd l (q:Int):=by
 rw[rd_nat,rd_nat,List.getD_eq_getElem?_getD,List.getD_eq_getElem?_getD,List.getElem?_set]
 by_cases h:p=q
 ·subst h;simp[hp]
 ·simp [h]
theorem dv_set:∀ {l:List Int} {p:Nat},p<l.length→∀ x:Int,dv (l.set p x)+1000000000 ^ p*(rd l (p:Int)).toNat=dv l+1000000000 ^ p*x.toNat
 | [],p,h,_=>by simp at h
 |y::r,0,_,x=>by
  rw[rd_nat];simp only[List.set_cons_zero,dv,List.getD_cons_zero,Nat.pow_zero,Nat.one_mul]
  omega
 |y::r,p+1,h,x=>by
  have ih:=dv_set (l:=r) (p:=p) (by simpa using h) x;rw[rd_nat]at ih ⊢;simp only[List.set_cons_succ,dv,List.getD_cons_succ,Nat.pow_succ]at ih ⊢;rw[Nat.mul_comm (1000000000 ^ p) 1000000000,Nat.mul_assoc,Nat.mul_assoc]
  omega
theorem mul9 {x y:Int} (hx:0≤x∧x<1000000000) (hy:0≤y∧y<1000000000):0≤x*y∧x*y≤999999998000000001:=
 ⟨Int.mul_nonneg hx.1 hy.1,by have:=Int.mul_le_mul (show x≤999999999 by omega) (show y≤999999999 by omega) hy.1 (by omega);omega⟩
theorem ring1 {P Q o t c c1 u E E' x x1 y a b:Nat} (h1:x1+P*Q*o=x+P*Q*t) (h2:t+1000000000*c1=o+u+c) (hu:u=a*b) (h3:E=b+1000000000*E') (h4:y=x1+P*(a*(Q*1000000000*E'))+P*(Q*1000000000)*c1):y=x+P*(a*(Q*E))+P*Q*c:=by
 have h5:=congrArg (fun z=>P*Q*z) h2;subst h3 hu h4;simp only[Nat.mul_add,Nat.mul_assoc,Nat.mul_comm,Nat.mul_left_comm]at h1 h5 ⊢
 omega
theorem in3 {x p c:Int} (ho:0≤x∧x<1000000000) (hm:0≤p∧p≤999999998000000001) (hc:0≤c∧c<1000000000):(-9223372036854775808≤p∧p≤9223372036854775807)∧(-9223372036854775808≤x+p∧x+p≤9223372036854775807)∧(-9223372036854775808≤x+p+c∧x+p+c≤9223372036854775807):=by omega
theorem mul_l1 {a b:List Int} (ha:DG a) (hb:DG b) (sa sb:Int) (hl:a.length+b.length<1000000000000) (i:Nat) (hi:i<a.length) (r:Int×List Int):∀ (d k:Nat) (out:List Int) (c:Int),k+d=b.length→DG out→out.length=a.length+b.length+1→(0≤c∧c<1000000000)→(∀ p:Nat,i+b.length≤p→rd out (p:Int)=0)→
  (∀ out',DG out'→out'.length=a.length+b.length+1→(∀ p:Nat,i+1+b.length≤p→rd out' (p:Int)=0)→dv out'=dv out+1000000000 ^ i*((rd a (i:Int)).toNat*(1000000000 ^ k*dv (b.drop k)))+1000000000 ^ i*1000000000 ^ k*c.toNat→Ev (fun z=>Bs_WideMul.l0 z out' ((i+1:Nat):Int) sa a sb b) r)→
  Ev (fun z=>Bs_WideMul.l1 z out (i:Int) c (k:Int) sa a sb b) r:=by
 intro d
 induction d with
 | zero=>
  intro k out c hk hD hlen hc hz hnext;obtain rfl:k=b.length:=by omega
  refine Ev.succ (f:=fun z=>Bs_WideMul.l1 z out (i:Int) c (b.length:Int) sa a sb b) ?_;have w:wrap64 ((i:Int)+(b.length:Int))=((i+b.length:Nat):Int):=by unfold wrap64;omega
  simp only[Bs_WideMul.l1,Int.lt_irrefl,if_false,w,show(0:Int)≤((i+b.length:Nat):Int) by omega,show((i+b.length:Nat):Int)<(out.length:Int) by omega,if_true,up (show i<4611686018427387904 by omega),Int.toNat_natCast];rw[hz (i+b.length) (Nat.le_refl _),w64 (by omega),Int.zero_add];have hset:=dv_set (l:=out) (p:=i+b.length) (by omega) c;rw[hz (i+b.length) (Nat.le_refl _)]at hset;refine hnext _ (DG_set hD _ hc) (by rw[List.length_set];exact hlen) (fun p hp=>?_) ?_
  ·rw [rd_set (by omega),if_neg (by omega)];exact hz p (by omega)
  ·rw [List.drop_length,dv,Nat.mul_zero,Nat.mul_zero,Nat.mul_zero,Nat.add_zero, ←Nat.pow_add]
   simpa using hset
 |succ d ih=>
  intro k out c hk hD hlen hc hz hnext;refine Ev.succ (f:=fun z=>Bs_WideMul.l1 z out (i:Int) c (k:Int) sa a sb b) ?_;have w:wrap64 ((i:Int)+(k:Int))=((i+k:Nat):Int):=by unfold wrap64;omega
  simp only[Bs_WideMul.l1,show(k:Int)<(b.length:Int) by omega,w,show(0:Int)≤((i+k:Nat):Int) by omega,show((i+k:Nat):Int)<(out.length:Int) by omega,show(0:Int)≤(i:Int) by omega,show(i:Int)<(a.length:Int) by omega,show(0:Int)≤(k:Int) by omega,if_true,up (show k<4611686018427387904 by omega),Int.toNat_natCast];have ho:=rd_D hD (i+k);have hx:=rd_D ha i;have hy:=rd_D hb k;have hm:=mul9 hx hy;generalize hp:rd a (i:Int)*rd b (k:Int)=p at hm ⊢;have hs:0≤rd out ((i+k:Nat):Int)+p+c:=by omega
  have hin:=in3 ho hm hc;rw[w64 (n:=p) hin.1,w64 (n:=rd out ((i+k:Nat):Int)+p) hin.2.1,w64 (n:=rd out ((i+k:Nat):Int)+p+c) hin.2.2,Int.tmod_eq_emod_of_nonneg hs,Int.tdiv_eq_ediv_of_nonneg hs,w64 (by omega)];generalize hS:rd out ((i+k:Nat):Int)+p+c=s at hs ⊢;have hset:=dv_set (l:=out) (p:=i+k) (by omega) (s % 1000000000);refine ih (k+1) _ _ (by omega) (DG_set hD _ (by omega)) (by rw[List.length_set];exact hlen) (by omega) (fun q hq=>?_) (fun out' h1 h2 h3 h4=>hnext out' h1 h2 h3 ?_)
  ·rw [rd_set (by omega),if_neg (by omega)];exact hz q hq
  ·rw [Nat.pow_succ]at h4;rw[Nat.pow_add]at hset;refine ring1 hset (c1:=(s / 1000000000).toNat) (u:=p.toNat) (by omega) ?_ (dv_drop b k) h4;rw[← hp,Int.toNat_mul hx.1 hy.1]
theorem mul_l0 {a b:List Int} (ha:DG a) (hb:DG b) (sa sb:Int) (hl:a.length+b.length<1000000000000):∀ (d i:Nat) (out:List Int),i+d=a.length→DG out→out.length=a.length+b.length+1→(∀ p:Nat,i+b.length≤p→rd out (p:Int)=0)→dv out+1000000000 ^ i*(dv (a.drop i)*dv b)=dv a*dv b→
  Ev (fun z=>Bs_WideMul.l0 z out (i:Int) sa a sb b) (if dv a*dv b=0 then 0 else wrap64 (sa*sb),dn (dv a*dv b)):=by
 intro d
 induction d with
 |zero=>
  intro i out hi hD hlen hz hv;refine Ev.succ (f:=fun z=>Bs_WideMul.l0 z out (i:Int) sa a sb b) ?_;simp only[Bs_WideMul.l0,show ¬ (i:Int)<(a.length:Int) by omega,if_false];rw[List.drop_eq_nil_of_le (show a.length≤i by omega),dv,Nat.zero_mul,Nat.mul_zero,Nat.add_zero]at hv;have:=wideOf_ev (wrap64 (sa*sb)) hD (by omega);rw[hv]at this;exact Ev.bind this Ev.some
 |succ d ih=>
  intro i out hi hD hlen hz hv;refine Ev.succ (f:=fun z=>Bs_WideMul.l0 z out (i:Int) sa a sb b) ?_;simp only[Bs_WideMul.l0,show(i:Int)<(a.length:Int) by omega,if_true];refine mul_l1 ha hb sa sb hl i (by omega) _ b.length 0 out 0 (by omega) hD hlen (by decide) hz (fun out' h1 h2 h3 h4=>ih (i+1) out' (by omega) h1 h2 h3 ?_);rw[← hv,h4,dv_drop a i,List.drop_zero,Nat.pow_succ];simp only[Nat.mul_add,Nat.add_mul,Nat.mul_assoc,Nat.mul_comm,Nat.mul_left_comm,Nat.pow_zero,Nat.one_mul,Nat.mul_one,Int.toNat_zero,Nat.mul_zero,Nat.add_zero,Nat.zero_mul]
  omega
theorem sg_mul (a b:Int):sg (a*b)=if a.natAbs*b.natAbs=0 then 0 else sg a*sg b:=by
 by_cases ha:a=0
 ·subst ha;simp[sg]
 ·by_cases hb:b=0
  ·subst hb;simp[sg]
  ·rw [if_neg (Nat.mul_ne_zero (by omega) (by omega))]
   rcases Int.lt_or_lt_of_ne ha with pa|pa<;>rcases Int.lt_or_lt_of_ne hb with pb|pb
   ·rw [sg_neg pa,sg_neg pb,sg_pos (Int.mul_pos_of_neg_of_neg pa pb)];rfl
   ·rw [sg_neg pa,sg_pos pb,sg_neg (Int.mul_neg_of_neg_of_pos pa pb)];rfl
   ·rw [sg_pos pa,sg_neg pb,sg_neg (Int.mul_neg_of_pos_of_neg pa pb)];rfl
   ·rw [sg_pos pa,sg_pos pb,sg_pos (Int.mul_pos pa pb)];rfl
theorem WideMul_ev {a b:Int} (hl:(dn a.natAbs).length+(dn b.natAbs).length<1000000000000):Ev (fun k=>Bs_WideMul.f k (wd a).1 (wd a).2 (wd b).1 (wd b).2) (wd (a*b)):=by
  unfold Bs_WideMul.f;have w:wrap64 (wrap64 (((dn a.natAbs).length:Int)+((dn b.natAbs).length:Int))+1)=(((dn a.natAbs).length+(dn b.natAbs).length+1:Nat):Int):=by
    rw[w64 (n:=((dn a.natAbs).length:Int)+((dn b.natAbs).length:Int)) (by omega),w64 (by omega)];omega
  have w':wrap64 (wrap64 (((wd a).2.length:Int)+((wd b).2.length:Int))+1)=(((dn a.natAbs).length+(dn b.natAbs).length+1:Nat):Int):=w;simp only[w',show(0:Int)≤(((dn a.natAbs).length+(dn b.natAbs).length+1:Nat):Int) by omega,Int.toNat_natCast,show(dn a.natAbs).length+(dn b.natAbs).length+1≤35184372088832 by omega,if_true];have hz:∀ (m:Nat) (p:Nat),rd (List.replicate m 0) (p:Int)=0:=fun m p=>by
    rw[rd_nat,List.getD_eq_getElem?_getD,List.getElem?_replicate]
    split<;>rfl
  have hd:DG (List.replicate ((dn a.natAbs).length+(dn b.natAbs).length+1) 0):=fun x hx=>by rw[(List.mem_replicate.1 hx).2];decide
  have hv:∀ m:Nat,dv (List.replicate m 0)=0:=fun m=>by
    induction m with
    |zero=>rfl
    |succ m ih=>rw[List.replicate_succ,dv,ih];rfl
  have:=mul_l0 (dn_DG a.natAbs) (dn_DG b.natAbs) (wd a).1 (wd b).1 hl (dn a.natAbs).length 0 _ (by omega) hd (by simp) (fun p _=>hz _ p) (by rw[hv];simp);rw[dv_dn,dv_dn]at this;have e:wd (a*b)=(if a.natAbs*b.natAbs=0 then 0 else wrap64 ((wd a).1*(wd b).1),dn (a.natAbs*b.natAbs)):=by
    unfold wd;dsimp only;rw[Int.natAbs_mul,sg_mul,w64 (n:=sg a*sg b) (by rcases sg_in a with e|e|e<;>rcases sg_in b with e'|e'|e'<;>rw[e,e']<;>decide)]
  rw[e];exact this

theorem le_div {b m L:Nat} (hb:0<b):cmpN (b*m) L≤0↔m≤L / b:=by
 rw[Nat.le_div_iff_mul_le hb,Nat.mul_comm m b];unfold cmpN
 split
 ·simp;omega
 ·split
  ·simp;omega
  ·simp;omega
theorem floor_l1 {b L:Nat} (hb:0<b) (hlb:(dn b).length<1000000) (q:List Int) (i:Int) (sa:Int) (da:List Int) (sb:Int) (r:Int×List Int)
  (hend:Ev (fun z=>Bs_WideFloor.l1 z q (dn L) i ((L / b:Nat):Int) ((L / b:Nat):Int) sa da sb (dn b)) r):∀ (d lo hi:Nat),hi-lo≤d→lo≤L / b→L / b≤hi→hi≤999999999→
  Ev (fun z=>Bs_WideFloor.l1 z q (dn L) i (lo:Int) (hi:Int) sa da sb (dn b)) r:=by
 intro d
 induction d with
 |zero=>
  intro lo hi h h1 h2 h3;obtain rfl:lo=L / b:=by omega
  obtain rfl:hi=L / b:=by omega
  exact hend
 | succ d ih=>
  intro lo hi h h1 h2 h3
  by_cases hlt:lo<hi
  ·obtain ⟨m,hm⟩:∃ m:Nat,m=(lo+hi+1) / 2:=⟨_,rfl⟩;refine Ev.succ (f:=fun z=>Bs_WideFloor.l1 z q (dn L) i (lo:Int) (hi:Int) sa da sb (dn b)) ?_;have w:wrap64 (Int.tdiv (wrap64 (wrap64 ((lo:Int)+(hi:Int))+1)) 2)=(m:Int):=by
    rw[w64 (n:=(lo:Int)+(hi:Int)) (by omega),w64 (n:=(lo:Int)+(hi:Int)+1) (by omega),Int.tdiv_eq_ediv_of_nonneg (by omega),w64 (by omega)]
    omega
   simp only[Bs_WideFloor.l1,show(lo:Int)<(hi:Int) by omega,if_true,w,w64 (n:=(m:Int)-1) (by omega)];have h1b:=wideOf_ev 1 (dn_DG b) (by omega);rw[dv_dn,if_neg (show ¬ b=0 by omega)]at h1b;refine Ev.bind h1b ?_;refine Ev.bind (WideOf_ev (x:=(m:Int)) (by omega)) ?_;have hlm:(dn ((m:Int)).natAbs).length≤2:=dn_len (by have:(1000000000:Nat) ^ 2=1000000000000000000:=(by decide);omega);have hmul:=WideMul_ev (a:=(b:Int)) (b:=(m:Int)) (by simp only[Int.natAbs_natCast]at hlm ⊢;omega);rw[show wd (b:Int)=(1,dn b) by unfold wd;rw[sg_pos (by omega),Int.natAbs_natCast]]at hmul;refine Ev.bind hmul ?_;have e2:(wd ((b:Int)*(m:Int))).2=dn (b*m):=by unfold wd;dsimp only;rw[Int.natAbs_mul,Int.natAbs_natCast,Int.natAbs_natCast]
   rw[e2];have hlen:(dn (b*m)).length<4611686018427387904:=by
    have h4:(dn (b*m)).length≤(dn b).length+2:=dn_len (by
     rw[Nat.pow_add];have p1:=dv_lt (dn_DG b);rw[dv_dn]at p1;exact Nat.mul_lt_mul'' p1 (by have:(1000000000:Nat) ^ 2=1000000000000000000:=(by decide);omega))
    omega
   refine Ev.bind (cmpDigits_ev hlen) ?_
   by_cases hc:cmpN (b*m) L≤0
   ·simp only[hc,if_true];have:=(le_div hb).1 hc;exact ih m hi (by omega) this h2 h3
   ·simp only[hc,if_false];have:¬ m≤L / b:=fun e=>hc ((le_div hb).2 e);rw[show (m:Int)-1=((m-1:Nat):Int) by omega];exact ih lo (m-1) (by omega) h1 (by omega) (by omega)
  ·obtain rfl:lo=L / b:=by omega
   obtain rfl:hi=L / b:=by omega
   exact hend
theorem ring2 {A b B Bn dq L L1 lo dt an:Nat} (h:A=dq*b*(Bn*B)+L*(Bn*B)+(dt+Bn*an)) (h1:L1=an+B*L) (h2:b*lo≤L1):A=(lo+B*dq)*b*Bn+(L1-b*lo)*Bn+dt:=by
 obtain⟨e,rfl⟩:∃ e,L1=b*lo+e:=⟨L1-b*lo,by omega⟩;rw[Nat.add_sub_cancel_left];have h5:=congrArg (fun z=>Bn*z) h1;simp only[Nat.mul_add,Nat.add_mul,Nat.mul_assoc,Nat.mul_comm,Nat.mul_left_comm]at h h5 ⊢
 omega
theorem floor_l0 {a:List Int} (ha:DG a) {b:Nat} (hb:0<b) (hla:a.length<1000000) (hlb:(dn b).length<1000000) (sa sb:Int) (r:Int×List Int)
  (hend:∀ (q:List Int),DG q→q.length=a.length→dv q=dv a / b→Ev (fun z=>Bs_WideFloor.l0 z q (dn (dv a % b)) (-1) sa a sb (dn b)) r):
  ∀ (n:Nat) (q:List Int) (L:Nat),n≤a.length→q.length=a.length→DG q→L<b→dv a=dv (q.drop n)*b*1000000000 ^ n+L*1000000000 ^ n+dv (a.take n)→
  Ev (fun z=>Bs_WideFloor.l0 z q (dn L) ((n:Int)-1) sa a sb (dn b)) r:=by
 intro n
 induction n with
 |zero=>
  intro q L hn hq hD hL hv;rw[List.drop_zero,Nat.pow_zero,Nat.mul_one,Nat.mul_one,List.take_zero,dv,Nat.add_zero,Nat.mul_comm]at hv;have h1:dv q=dv a / b:=by rw[hv,Nat.mul_add_div hb,Nat.div_eq_of_lt hL,Nat.add_zero]
  have h2:dv a % b=L:=by rw[hv,Nat.mul_add_mod,Nat.mod_eq_of_lt hL]
  have:=hend q hD hq h1;rw[h2]at this;exact this
 | succ n ih=>
  intro q L hn hq hD hL hv;have hx:=rd_D ha n;have hlL:(dn L).length≤(dn b).length:=dn_mono (by omega);rw[show ((n+1:Nat):Int)-1=(n:Int) by omega];refine Ev.succ (f:=fun z=>Bs_WideFloor.l0 z q (dn L) (n:Int) sa a sb (dn b)) ?_;simp only[Bs_WideFloor.l0,show(n:Int)≥0 by omega,show(0:Int)≤(n:Int) by omega,show(n:Int)<(a.length:Int) by omega,if_true,Option.bind_some];simp only[List.length_cons,List.length_nil,show 0+1+(dn L).length<17592186044416 by omega,if_true];have hd1:DG ([rd a (n:Int)]++dn L):=DG_append (fun y hy=>by simp at hy;omega) (dn_DG L);have ht:=trimmed_ev hd1 (by simp;omega);have e1:dv ([rd a (n:Int)]++dn L)=(rd a (n:Int)).toNat+1000000000*L:=by rw[List.singleton_append,dv,dv_dn]
  rw[e1]at ht;refine Ev.bind ht ?_;generalize hL1:(rd a (n:Int)).toNat+1000000000*L=L1;have hq1:L1 / b<1000000000:=by
   rw[Nat.div_lt_iff_lt_mul hb];have:=Nat.mul_le_mul_left 1000000000 (show L+1≤b by omega)
   omega
  have hq0:(0:Int)≤((L1 / b:Nat):Int):=Int.natCast_nonneg _;have hq2:((L1 / b:Nat):Int)<1000000000:=Int.ofNat_lt.2 hq1;refine floor_l1 hb hlb q (n:Int) sa a sb r ?_ 999999999 0 999999999 (by omega) (by omega) (by omega) (by omega);refine Ev.succ (f:=fun z=>Bs_WideFloor.l1 z q (dn L1) (n:Int) ((L1 / b:Nat):Int) ((L1 / b:Nat):Int) sa a sb (dn b)) ?_;simp only[Bs_WideFloor.l1,Int.lt_irrefl,if_false,show(0:Int)≤(n:Int) by omega,show(n:Int)<(q.length:Int) by omega,if_true,Int.toNat_natCast];have h1b:=wideOf_ev 1 (dn_DG b) (by omega);rw[dv_dn,if_neg (show ¬ b=0 by omega)]at h1b;refine Ev.bind h1b ?_;refine Ev.bind (WideOf_ev (x:=((L1 / b:Nat):Int)) (by omega)) ?_;have hlm:(dn (((L1 / b:Nat):Int)).natAbs).length≤2:=dn_len (by rw[Int.natAbs_natCast];have:(1000000000:Nat) ^ 2=1000000000000000000:=(by decide);omega);have hmul:=WideMul_ev (a:=(b:Int)) (b:=((L1 / b:Nat):Int)) (by simp only[Int.natAbs_natCast]at hlm ⊢;omega);rw[show wd (b:Int)=(1,dn b) by unfold wd;rw[sg_pos (by omega),Int.natAbs_natCast]]at hmul;refine Ev.bind hmul ?_;have e2:(wd ((b:Int)*((L1 / b:Nat):Int))).2=dn (b*(L1 / b)):=by unfold wd;dsimp only;rw[Int.natAbs_mul,Int.natAbs_natCast,Int.natAbs_natCast]
  rw[e2];have hle:b*(L1 / b)≤L1:=Nat.mul_div_le L1 b;have hmod:L1-b*(L1 / b)<b:=by have:=Nat.mod_lt L1 hb;rw[Nat.mod_eq_sub_mul_div]at this;exact this
  have hl1:(dn L1).length≤(dn b).length+1:=dn_len (by
   have p:=dv_lt (dn_DG b);rw[dv_dn]at p;have:=Nat.mul_le_mul_left 1000000000 (show L+1≤b by omega);rw[Nat.pow_succ]
   omega)
  have hsub:=subDigits_ev (dn_DG L1) (dn_DG (b*(L1 / b))) (by omega) (by rw[dv_dn,dv_dn];exact hle);rw[dv_dn,dv_dn]at hsub;refine Ev.bind hsub ?_;rw[w64 (by omega)];refine ih (q.set n ((L1 / b:Nat):Int)) _ (by omega) (by rw[List.length_set];exact hq) (DG_set hD _ (by omega)) hmod ?_;rw[dv_drop (q.set n ((L1 / b:Nat):Int)) n,rd_set (by omega),if_pos rfl,List.drop_set_of_lt (by omega),Int.toNat_natCast];refine ring2 ?_ hL1.symm hle;rw[Nat.pow_succ,dv_take (by omega)]at hv;exact hv
theorem floorN (n b:Nat) (hb:0<b):(-(n:Int)) / (b:Int)=if n % b=0 then -((n / b:Nat):Int)else -((n / b:Nat):Int)-1:=by
 have h:=Nat.div_add_mod n b;have hm:=Nat.mod_lt n hb;have e:((b:Int)*((n / b:Nat):Int))=((b*(n / b):Nat):Int):=by simp
 by_cases h0:n % b=0
 ·rw [if_pos h0];rw[show (-(n:Int))=(b:Int)*(-((n / b:Nat):Int)) by rw[Int.mul_neg,e];omega];exact Int.mul_ediv_cancel_left _ (by omega)
 ·rw [if_neg h0];rw[show (-(n:Int))=((b-n % b:Nat):Int)+(b:Int)*(-((n / b:Nat):Int)-1) by rw[Int.mul_sub,Int.mul_neg,e];omega];rw[Int.add_mul_ediv_left _ _ (by omega),Int.ediv_eq_zero_of_lt (by omega) (by omega)]
  omega
theorem WideFloor_ev {a b:Int} (hb:0<b) (hx:0≤a∨b∣a) (hla:(dn a.natAbs).length<1000000) (hlb:(dn b.natAbs).length<1000000):Ev (fun k=>Bs_WideFloor.f k (wd a).1 (wd a).2 (wd b).1 (wd b).2) (wd (a / b)):=by
 obtain⟨n,rfl⟩:∃ n:Nat,b=(n:Int):=⟨b.toNat,by omega⟩;rw[Int.natAbs_natCast]at hlb;unfold Bs_WideFloor.f
 by_cases h0:a=0
 ·subst h0;simp only[show (wd 0).1=0 from rfl,if_true,Int.zero_ediv];rw[show wd 0=(0,[]) by unfold wd sg;simp[dn_zero]];exact Ev.some
 ·have s0:¬ (wd a).1=0:=fun e=>h0 (sg_zero.1 e);have hl:(wd a).2.length=(dn a.natAbs).length:=rfl;simp only[s0,if_false,show(0:Int)≤((wd a).2.length:Int) by omega,Int.toNat_natCast,show(wd a).2.length≤35184372088832 by omega,if_true];have hz:∀ (m:Nat),DG (List.replicate m 0):=fun m x hx=>by rw[(List.mem_replicate.1 hx).2];decide
  have key:=floor_l0 (dn_DG a.natAbs) (b:=n) (by omega) hla hlb (wd a).1 (wd (n:Int)).1 (wd (a / (n:Int))) (fun q hD hq hv=>?_) (dn a.natAbs).length (List.replicate (dn a.natAbs).length 0) 0 (Nat.le_refl _) (by simp) (hz _) (by omega) (by rw[List.drop_eq_nil_of_le (by simp),dv,List.take_length];simp)
  ·rw [dn_zero]at key;rw[w64 (by omega)];exact key
  ·rw [dv_dn]at hv ⊢;refine Ev.succ (f:=fun z=>Bs_WideFloor.l0 z q (dn (a.natAbs % n)) (-1) (wd a).1 (dn a.natAbs) (wd (n:Int)).1 (dn n)) ?_;simp only[Bs_WideFloor.l0,show ¬ (-1:Int)≥0 by decide,if_false];have hw:=wideOf_ev (wd a).1 hD (by omega);rw[hv,wd_of _ _ (by rcases sg_in a with e|e|e;exact .inr e;exact absurd e s0;exact .inl e)]at hw;refine Ev.bind hw ?_;have hlq:(dn (a.natAbs / n)).length≤(dn a.natAbs).length:=dn_mono (Nat.div_le_self _ _)
   rcases Int.lt_or_lt_of_ne h0 with hn|hp
   ·have es:(wd a).1= -1:=sg_neg hn;simp only[es,show(-1:Int)<0 by decide,if_true];have hf:a / (n:Int)=if a.natAbs % n=0 then -((a.natAbs / n:Nat):Int)else -((a.natAbs / n:Nat):Int)-1:=by
     rw[← floorN a.natAbs n (by omega),show -((a.natAbs:Nat):Int)=a by omega]
    rw[show (-1:Int)*((a.natAbs / n:Nat):Int)= -((a.natAbs / n:Nat):Int) by omega]
    by_cases hm:a.natAbs % n=0
    ·rw [if_pos hm]at hf;rw[hf,hm,dn_zero];refine Ev.succ (f:=fun z=>Bs_WideFloor.j2 z _ _ _) ?_;simp only[Bs_WideFloor.j2,List.length_nil,show decide (((0:Nat):Int)>0)=false by decide,Bool.false_eq_true,if_false];exact Ev.some
    ·rcases hx with hx|⟨c,hc⟩
     ·omega
     ·exact absurd (show a.natAbs % n=0 by rw[hc,Int.natAbs_mul,Int.natAbs_natCast,Nat.mul_mod_right]) hm
   ·have es:(wd a).1=1:=sg_pos hp;simp only[es,show ¬ (1:Int)<0 by decide,if_false];refine Ev.succ (f:=fun z=>Bs_WideFloor.j2 z false _ _) ?_;simp only[Bs_WideFloor.j2,Bool.false_eq_true,if_false];rw[show (1:Int)*((a.natAbs / n:Nat):Int)=a / (n:Int) by rw[Int.one_mul,Int.natCast_ediv];congr 1;omega];exact Ev.some

theorem gcd_w0:∀ (m x y:Nat),y≤m→(dn x).length<1000000→(dn y).length<1000000→Ev (fun k=>Bs_wideGcd.l0 k (wd (x:Int)).1 (wd (x:Int)).2 (wd (y:Int)).1 (wd (y:Int)).2) (wd ((Nat.gcd x y:Nat):Int)):=by
 intro m
 induction m with
 |zero=>
  intro x y hy hx _;obtain rfl:y=0:=by omega
  refine Ev.succ (f:=fun k=>Bs_wideGcd.l0 k (wd (x:Int)).1 (wd (x:Int)).2 (wd ((0:Nat):Int)).1 (wd ((0:Nat):Int)).2) ?_;simp only[Bs_wideGcd.l0,Bs_WideSign.f,Option.bind_some,show(wd ((0:Nat):Int)).1=0 from rfl,if_true,Nat.gcd_zero_right];exact Ev.some
 | succ m ih=>
  intro x y hy hx hly;refine Ev.succ (f:=fun k=>Bs_wideGcd.l0 k (wd (x:Int)).1 (wd (x:Int)).2 (wd (y:Int)).1 (wd (y:Int)).2) ?_
  by_cases h0:y=0
  ·subst h0;simp only[Bs_wideGcd.l0,Bs_WideSign.f,Option.bind_some,show(wd ((0:Nat):Int)).1=0 from rfl,if_true,Nat.gcd_zero_right];exact Ev.some
  ·have es:¬ (wd (y:Int)).1=0:=fun e=>h0 (by have:=sg_zero.1 (show sg (y:Int)=0 from e);omega);simp only[Bs_wideGcd.l0,Bs_WideSign.f,Option.bind_some,es,if_false];refine Ev.bind (WideFloor_ev (a:=(x:Int)) (b:=(y:Int)) (by omega) (.inl (by omega)) (by rw[Int.natAbs_natCast];exact hx) (by rw[Int.natAbs_natCast];exact hly)) ?_;have e1:(x:Int) / (y:Int)=((x / y:Nat):Int):=by simp
   have l1:(dn (x / y)).length≤(dn x).length:=dn_mono (Nat.div_le_self _ _);have hle:x / y*y≤x:=Nat.div_mul_le_self x y;have l2:(dn (x / y*y)).length≤(dn x).length:=dn_mono hle;rw[e1];refine Ev.bind (WideMul_ev (a:=((x / y:Nat):Int)) (b:=(y:Int)) (by rw[Int.natAbs_natCast,Int.natAbs_natCast];omega)) ?_;have e2:((x / y:Nat):Int)*(y:Int)=((x / y*y:Nat):Int):=by simp
   rw[e2];refine Ev.bind (WideSub_ev (a:=(x:Int)) (b:=((x / y*y:Nat):Int)) (by rw[Int.natAbs_natCast];omega) (by rw[Int.natAbs_natCast];omega)) ?_;have hmod:(x:Int)-((x / y*y:Nat):Int)=((x % y:Nat):Int):=by
    have:=Nat.mod_eq_sub_mul_div (x:=x) (k:=y);rw[Nat.mul_comm]at this
    omega
   rw[hmod];have hlt:=Nat.mod_lt x (show 0<y by omega);have:=ih y (x % y) (by omega) hly (by have:=dn_mono (show x % y≤y by omega);omega);rw[show Nat.gcd x y=Nat.gcd y (x % y) by rw[Nat.gcd_comm x y,Nat.gcd_rec y x,Nat.gcd_comm]];exact this
theorem wideGcd_ev {a b:Int} (hla:(dn a.natAbs).length<1000000) (hlb:(dn b.natAbs).length<1000000):Ev (fun k=>Bs_wideGcd.f k (wd a).1 (wd a).2 (wd b).1 (wd b).2) (wd ((Int.gcd a b:Nat):Int)):=by
 unfold Bs_wideGcd.f;rw[wideSize_eq,wideSize_eq];simp only[Option.bind_some];exact gcd_w0 b.natAbs a.natAbs b.natAbs (Nat.le_refl _) hla hlb

def Rt (p:Int×Int):Int×List Int×Int×List Int:=((wd p.1).1,(wd p.1).2,(wd p.2).1,(wd p.2).2)
def red (a b:Int):Int×Int:=(a / (Int.gcd a b:Int),b / (Int.gcd a b:Int))
theorem RatioMake_ev {a b:Int} (hb:0<b) (hla:(dn a.natAbs).length<1000000) (hlb:(dn b.natAbs).length<1000000):Ev (fun k=>Bs_RatioMake.f k (wd a).1 (wd a).2 (wd b).1 (wd b).2) (Rt (red a b)):=by
 have h1:(dn (1:Int).natAbs).length≤1:=dn_len (by decide);have hg0:0<Int.gcd a b:=Int.gcd_pos_of_ne_zero_right _ (by omega);have hgl:Int.gcd a b≤b.natAbs:=Nat.le_of_dvd (by omega) (Nat.gcd_dvd_right _ _);have hgn:(dn (Int.gcd a b)).length≤(dn b.natAbs).length:=dn_mono hgl;unfold Bs_RatioMake.f;simp only[Bs_WideSign.f,Option.bind_some,show(wd b).1=1 from sg_pos hb,show ¬ (1:Int)<0 by decide,if_false];have hg:=wideGcd_ev hla hlb;rw[show (wd b).1=1 from sg_pos hb]at hg;refine Ev.bind hg ?_;refine Ev.bind (WideOf_ev (x:=1) (by decide)) ?_;have hc:Ev (fun k=>Bs_WideCmp.f k (wd ((Int.gcd a b:Nat):Int)).1 (wd ((Int.gcd a b:Nat):Int)).2 (wd 1).1 (wd 1).2) (sg (((Int.gcd a b:Nat):Int)-1)):=
  Ev.bind (WideSub_ev (a:=((Int.gcd a b:Nat):Int)) (b:=1) (by rw[Int.natAbs_natCast];omega) (by omega)) Ev.some
 refine Ev.bind hc ?_
 by_cases he:Int.gcd a b=1
 ·have:sg (((Int.gcd a b:Nat):Int)-1)=0:=sg_zero.2 (by omega);simp only[this,if_true];have e:red a b=(a,b):=by unfold red;rw[he];simp
  rw[e];unfold Rt;rw[show (wd b).1=1 from sg_pos hb];exact Ev.some
 ·have:¬ sg (((Int.gcd a b:Nat):Int)-1)=0:=fun e=>he (by have:=sg_zero.1 e;omega);simp only[this,if_false];have ha':=WideFloor_ev (a:=a) (b:=((Int.gcd a b:Nat):Int)) (by omega) (.inr (Int.gcd_dvd_left ..)) hla (by rw[Int.natAbs_natCast];omega);have hb':=WideFloor_ev (a:=b) (b:=((Int.gcd a b:Nat):Int)) (by omega) (.inr (Int.gcd_dvd_right ..)) hlb (by rw[Int.natAbs_natCast];omega);rw[show (wd b).1=1 from sg_pos hb]at hb';exact Ev.bind ha' (Ev.bind hb' Ev.some)
theorem red_spec {a b:Int} (hb:0<b):∃ g:Int,0<g∧a=(red a b).1*g∧b=(red a b).2*g∧Int.gcd (red a b).1 (red a b).2=1∧0<(red a b).2:=by
 have hg0:0<Int.gcd a b:=Int.gcd_pos_of_ne_zero_right _ (by omega);have e1:a / (Int.gcd a b:Int)*(Int.gcd a b:Int)=a:=Int.ediv_mul_cancel (Int.gcd_dvd_left ..);have e2:b / (Int.gcd a b:Int)*(Int.gcd a b:Int)=b:=Int.ediv_mul_cancel (Int.gcd_dvd_right ..);refine⟨(Int.gcd a b:Int),by omega,e1.symm,e2.symm,Int.gcd_ediv_gcd_ediv_gcd hg0,?_⟩;unfold red
 rcases Int.lt_or_le 0 (b / (Int.gcd a b:Int))with h|h
 ·exact h
 ·have:=Int.mul_le_mul_of_nonneg_right h (show 0≤(Int.gcd a b:Int) by omega);rw[e2]at this
  omega
theorem red_mul {a b c:Int} (hc:0<c) (hb:0<b):red (a*c) (b*c)=red a b:=by
 have hg0:0<Int.gcd a b:=Int.gcd_pos_of_ne_zero_right _ (by omega);unfold red;rw[Int.gcd_mul_right,Int.natCast_mul,Int.natAbs_of_nonneg (by omega),Int.mul_ediv_mul_of_pos_left _ _ hc,Int.mul_ediv_mul_of_pos_left _ _ hc]
theorem red_self {a b:Int} (h:Int.gcd a b=1):red a b=(a,b):=by unfold red;rw[h];simp
theorem WideInt_ev (z:Int):Ev (fun k=>Bs_WideInt.f k (wd z).1 (wd z).2) (if z.natAbs<1000000000000000000 then(z,true)else(0,false)):=by
  unfold Bs_WideInt.f;have e2:(1000000000:Nat) ^ 2=1000000000000000000:=by decide
  have hz:sg z*(z.natAbs:Int)=z:=by
    rcases Int.lt_trichotomy z 0 with h|h|h
    · rw[sg_neg h];omega
    · subst h;rfl
    · rw[sg_pos h];omega
  by_cases h:z.natAbs<1000000000000000000
  · have hl:(dn z.natAbs).length≤2:=dn_len (by omega)
    show Ev (fun k=>if((dn z.natAbs).length:Int)>2 then _ else Bs_WideInt.l0 k 0 (wrap64 (((dn z.natAbs).length:Int)-1)) (sg z) (dn z.natAbs)) _
    simp only[h,show ¬ ((dn z.natAbs).length:Int)>2 by omega,if_true,if_false];have hv:=dv_dn z.natAbs;have hD:=dn_DG z.natAbs;have last:∀ (l:List Int) (v:Int),v=z.natAbs→Ev (fun k=>Bs_WideInt.l0 k v (-1) (sg z) l) (z,true):=fun l v ev=>by
      refine Ev.succ (f:=fun k=>Bs_WideInt.l0 k v (-1) (sg z) l) ?_;simp only[Bs_WideInt.l0,show ¬ (-1:Int)≥0 by decide,if_false];rw[ev,hz,w64 (by omega)];exact Ev.some
    have one:∀ (l:List Int) (v:Int) (i:Nat) (r:Int×Bool),i<l.length→i<2→(0≤v∧v<1000000000)→DG l→Ev (fun k=>Bs_WideInt.l0 k (v*1000000000+rd l (i:Int)) ((i:Int)-1) (sg z) l) r→Ev (fun k=>Bs_WideInt.l0 k v (i:Int) (sg z) l) r:=fun l v i r hi h2 hv hD hn=>by
      have hx:=rd_D hD i;refine Ev.succ (f:=fun k=>Bs_WideInt.l0 k v (i:Int) (sg z) l) ?_;simp only[Bs_WideInt.l0,show(i:Int)≥0 by omega,show(0:Int)≤(i:Int) by omega,show(i:Int)<(l.length:Int) by omega,if_true];rw[w64 (n:=v*1000000000) (by omega),w64 (n:=v*1000000000+rd l (i:Int)) (by omega),w64 (n:=(i:Int)-1) (by omega)];exact hn
    generalize dn z.natAbs=l at hl hv hD ⊢
    match l,hl,hv,hD with
    | [],_,hv,_=>
      rw[w64 (by simp)];exact last _ _ (by rw[dv]at hv;omega)
    | [x],_,hv,hD=>
      rw[w64 (by simp)];rw[dv,dv]at hv;have hx:=hD x (by simp);refine one [x] 0 0 _ (by simp) (by decide) (by decide) hD ?_;exact last _ _ (by rw[show rd [x] ((0:Nat):Int)=x from rfl];omega)
    | [x,y],_,hv,hD=>
      rw[w64 (by simp)];rw[dv,dv,dv]at hv;have hx:=hD x (by simp);have hy:=hD y (by simp);refine one [x,y] 0 1 _ (by simp) (by decide) (by decide) hD ?_;refine one [x,y] _ 0 _ (by simp) (by decide) (by rw[show rd [x,y] ((1:Nat):Int)=y from rfl];omega) hD ?_;exact last _ _ (by rw[show rd [x,y] ((1:Nat):Int)=y from rfl,show rd [x,y] ((0:Nat):Int)=x from rfl];omega)
    |_::_::_::_,hl,_,_=>simp at hl
  · have hl:2<(dn z.natAbs).length:=by
      rcases Nat.lt_or_ge 2 (dn z.natAbs).length with h2|h2
      · exact h2
      · have:=dv_lt (dn_DG z.natAbs);rw[dv_dn]at this;have p:=Nat.pow_le_pow_right (show 1000000000>0 by decide) h2
        omega
    show Ev (fun k=>if((dn z.natAbs).length:Int)>2 then _ else _) _
    simp only[h,show((dn z.natAbs).length:Int)>2 by omega,if_true,if_false];exact Ev.some
def smallP (p:Int×Int):Prop:=(-1000000000≤p.1∧p.1≤1000000000)∧1≤p.2∧p.2≤1000000000
instance (p:Int×Int):Decidable (smallP p):=by unfold smallP;infer_instance
theorem IsSmall_dec (a b:Int):Bs_IsSmall.f a b=some (decide (smallP (a,b))):=by
 unfold Bs_IsSmall.f smallP;simp only[Within_eq,Option.bind_some,decide_eq_true_eq]
 by_cases h: -1000000000≤a∧a≤1000000000
 ·simp only[h,and_self,if_true,true_and]
 ·simp only[h,if_false,false_and,decide_false]
theorem RatioFrac_ev (p:Int×Int):Ev (fun k=>Bs_RatioFrac.f k (Rt p).1 (Rt p).2.1 (Rt p).2.2.1 (Rt p).2.2.2) (if smallP p then(p.1,p.2,true)else(0,0,false)):=by
 unfold Bs_RatioFrac.f;refine Ev.bind (WideInt_ev p.1) ?_;refine Ev.bind (WideInt_ev p.2) ?_
 by_cases h1:p.1.natAbs<1000000000000000000
 ·by_cases h2:p.2.natAbs<1000000000000000000
  ·simp only[h1,h2,if_true,IsSmall_dec,Option.bind_some,decide_eq_true_eq]
   by_cases h:smallP p
   ·simp only[h,if_true];exact Ev.some
   ·simp only[h,if_false];exact Ev.some
  ·have h:¬ smallP p:=fun h=>by unfold smallP at h;omega
   simp only[h1,h2,h,if_true,if_false,Bool.false_eq_true];exact Ev.some
 ·have h:¬ smallP p:=fun h=>by unfold smallP at h;omega
  simp only[h1,h,if_false,Bool.false_eq_true];exact Ev.some
theorem Index_l0 (l:List Int) (x:Int) (hl:l.length<4611686018427387904):∀ (n i:Nat),i+n=l.length→∃ r,Ev (fun k=>slices_Index_int_int.l0 k l x (l.length:Int) (i:Int)) r∧(0≤r↔x∈l.drop i)
 |0,i,h=>by
  refine⟨-1,Ev.succ (f:=fun k=>slices_Index_int_int.l0 k l x (l.length:Int) (i:Int)) ?_,?_⟩
  ·simp only[slices_Index_int_int.l0,show ¬ (i:Int)<(l.length:Int) by omega,if_false];exact Ev.some
  ·rw [show l.drop i=[]from List.drop_eq_nil_of_le (by omega)];simp
 | n +1,i,h=>by
  have hi:i<l.length:=by omega
  obtain⟨r,h1,h2⟩:=Index_l0 l x hl n (i+1) (by omega);rw[drop_rd hi]
  by_cases c:x=rd l (i:Int)
  ·refine ⟨(i:Int),Ev.succ (f:=fun k=>slices_Index_int_int.l0 k l x (l.length:Int) (i:Int)) ?_,?_⟩
   ·simp only[slices_Index_int_int.l0,show(i:Int)<(l.length:Int) by omega,show(0:Int)≤(i:Int) by omega,if_true,c];exact Ev.some
   ·constructor
    ·intro _;rw[← c];exact List.mem_cons_self
    ·intro _;omega
  ·refine ⟨r,Ev.succ (f:=fun k=>slices_Index_int_int.l0 k l x (l.length:Int) (i:Int)) ?_,?_⟩
   ·simp only[slices_Index_int_int.l0,show(i:Int)<(l.length:Int) by omega,show(0:Int)≤(i:Int) by omega,if_true,c,if_false,up (show i<4611686018427387904 by omega)];exact h1
   ·rw [h2];constructor
    ·exact List.mem_cons_of_mem _
    ·intro hm
     rcases List.mem_cons.mp hm with e|hm
     ·exact absurd e c
     ·exact hm
theorem Contains_ev (l:List Int) (x:Int) (hl:l.length<4611686018427387904):Ev (fun k=>slices_Contains_int_int.f k l x) (decide (x∈l)):=by
 unfold slices_Contains_int_int.f;obtain⟨r,h1,h2⟩:=Index_l0 l x hl l.length 0 (by omega);refine Ev.bind (f:=fun k=>slices_Index_int_int.f k l x) h1 ?_;rw[List.drop_zero]at h2;rw[show decide (r≥0)=decide (x∈l) by rw[Bool.eq_iff_iff];simp;exact h2];exact Ev.some
theorem Clone_eq (l:List Int) (h:l.length<4611686018427):slices_Clone_int_int.f l=some l:=by
 unfold slices_Clone_int_int.f;simp only[Option.bind_some,List.length_nil,List.nil_append];rw[if_pos (by omega)]
def Fs (l:List Int):Prop:=∀ x∈l,0<x∧x≤1000000000
theorem mul_le {a x:Int} (ha:0<a∧a≤1000000000) (hx:0<x∧x≤1000000000):0<a*x∧a*x≤1000000000000000000:=by
 refine⟨Int.mul_pos ha.1 hx.1,?_⟩;have:=Int.mul_le_mul ha.2 hx.2 (by omega) (by omega)
 omega
theorem ip_ge {l:List Int} (h:Fs l):1≤ip l:=by
 have:=ip_pos (l:=l) (fun x hx=>(h x hx).1)
 omega
theorem product_l0 (l:List Int) (hb:Fs l) (hl:l.length<4611686018427387904):∀ (n i:Nat) (a:Int),i+n=l.length→0<a∧a≤1000000000→Ev (fun k=>L_product.l0 k a l (l.length:Int) (i:Int)) (if a*ip (l.drop i)≤1000000000 then(a*ip (l.drop i),true)else(0,false))
 |0,i,a,h,ha=>by
  refine Ev.succ (f:=fun k=>L_product.l0 k a l (l.length:Int) (i:Int)) ?_;simp only[L_product.l0,show ¬ (i:Int)<(l.length:Int) by omega,if_false];rw[show l.drop i=[]from List.drop_eq_nil_of_le (by omega)];simp only[ip,Int.mul_one];rw[if_pos ha.2];exact Ev.some
 | n+1,i,a,h,ha=>by
  refine Ev.succ (f:=fun k=>L_product.l0 k a l (l.length:Int) (i:Int)) ?_;have hi:i<l.length:=by omega
  have hx:=hb _ (getD_mem hi);have hr:=ip_ge (l:=l.drop (i+1)) (fun y hy=>hb y (List.mem_of_mem_drop hy));have e:a*ip (l.drop i)=a*l.getD i 0*ip (l.drop (i+1)):=by rw[drop_getD 0 hi];simp only[ip];rw[Int.mul_assoc]
  rw[e];simp only[L_product.l0,show(i:Int)<(l.length:Int) by omega,show(0:Int)≤(i:Int) by omega,if_true,up (show i<4611686018427387904 by omega),rd_nat];generalize l.getD i 0=x at *;have hm:=mul_le ha hx;rw[w64 (n:=a*x) (by omega)]
  by_cases c:a*x>1000000000
  ·simp only[c,if_true];have:a*x≤a*x*ip (l.drop (i+1)):=by
    have:=Int.mul_le_mul_of_nonneg_left (a:=1) (b:=ip (l.drop (i+1))) (c:=a*x) hr (by omega)
    omega
   rw[if_neg (by omega)];exact Ev.some
  ·simp only[c,if_false];exact product_l0 l hb hl n (i+1) (a*x) (by omega) ⟨hm.1,by omega⟩
theorem product_ev (l:List Int) (hb:Fs l) (hl:l.length<4611686018427387904):Ev (fun k=>L_product.f k l) (if ip l≤1000000000 then(ip l,true)else(0,false)):=by
 have:=product_l0 l hb hl l.length 0 1 (by omega) (by omega);rw[List.drop_zero,Int.one_mul]at this;exact this
def fin_ (o u:List Int) (k:Nat):Option (Int×Int×Bool):=(L_product.f k o).bind fun bt676=>((L_product.f k u).bind fun bt678=>(if bt676.2=true then(some (bt676.1,bt678.1,bt678.2))else(some (bt676.1,bt678.1,false))))
theorem rdc_len:∀ (us:List Int) (x:Int),(rdc x us).2.length=us.length
 | [],x=>rfl
 |u::us,x=>by simp[rdc,rdc_len us]
theorem value_l1 (u0:Int) (r:Int×Int×Bool) (i:Nat) (hi0:i<4611686018427387904):∀ (n j:Nat) (o u:List Int),j+n=u.length→u.length<1000→(hi:i<o.length)→(0<rd o (i:Int)∧rd o (i:Int)≤1000000000)→Fs (u.drop j)→Ev (fun k=>L_factors_value.l0 k (o.set i (rdc (rd o (i:Int)) (u.drop j)).1) (u.take j++(rdc (rd o (i:Int)) (u.drop j)).2) u0 ((i+1:Nat):Int)) r→Ev (fun k=>L_factors_value.l1 k o u (i:Int) u0 (i:Int) (u.length:Int) (j:Int)) r
 | 0,j,o,u,h,hu,hi,hx,hF,H=>by
  refine Ev.succ (f:=fun k=>L_factors_value.l1 k o u (i:Int) u0 (i:Int) (u.length:Int) (j:Int)) ?_;rw[show u.drop j=[]from List.drop_eq_nil_of_le (by omega),show u.take j=u from List.take_of_length_le (by omega)]at H;simp only[rdc,List.append_nil]at H;have e:o.set i (rd o (i:Int))=o:=by
   rw[rd_nat,List.getD_eq_getElem?_getD,List.getElem?_eq_getElem hi]
   simp
  rw[e]at H;simp only[L_factors_value.l1,show ¬ (j:Int)<(u.length:Int) by omega,if_false,up hi0];exact H
 | n+1,j,o,u,h,hu,hi,hx,hF,H=>by
  refine Ev.succ (f:=fun k=>L_factors_value.l1 k o u (i:Int) u0 (i:Int) (u.length:Int) (j:Int)) ?_;have hj:j<u.length:=by omega
  rw[drop_rd hj]at H hF;have hy:=hF _ List.mem_cons_self;have hF2:Fs (u.drop (j+1)):=fun x hx=>hF x (List.mem_cons_of_mem _ hx);simp only[L_factors_value.l1,show(j:Int)<(u.length:Int) by omega,show(0:Int)≤(j:Int) by omega,show(0:Int)≤(i:Int) by omega,show(i:Int)<(o.length:Int) by omega,if_true,up (show j<4611686018427387904 by omega)];refine Ev.bind (divisor_pos (by omega) (by omega)) ?_;have hg:=gcd_pos2 (x:=rd o (i:Int)) (u:=rd u (j:Int)) hx.1;obtain⟨d1,d2,_,_⟩:=div_gcd hx.1 hy.1;have hd1:rd o (i:Int) / (Int.gcd (rd o (i:Int)) (rd u (j:Int)):Int)≤rd o (i:Int):=Int.ediv_le_self _ (by omega);have hd2:rd u (j:Int) / (Int.gcd (rd o (i:Int)) (rd u (j:Int)):Int)≤rd u (j:Int):=Int.ediv_le_self _ (by omega);have t1:Int.tdiv (rd o (i:Int)) (Int.gcd (rd o (i:Int)) (rd u (j:Int)):Int)=rd o (i:Int) / (Int.gcd (rd o (i:Int)) (rd u (j:Int)):Int):=Int.tdiv_eq_ediv_of_nonneg (by omega);have t2:Int.tdiv (rd u (j:Int)) (Int.gcd (rd o (i:Int)) (rd u (j:Int)):Int)=rd u (j:Int) / (Int.gcd (rd o (i:Int)) (rd u (j:Int)):Int):=Int.tdiv_eq_ediv_of_nonneg (by omega);simp only[show ¬ (Int.gcd (rd o (i:Int)) (rd u (j:Int)):Int)=0 by omega,if_false,t1,t2,Int.toNat_natCast];rw[w64 (n:=rd o (i:Int) / (Int.gcd (rd o (i:Int)) (rd u (j:Int)):Int)) (by omega),w64 (n:=rd u (j:Int) / (Int.gcd (rd o (i:Int)) (rd u (j:Int)):Int)) (by omega)];simp only[rdc]at H;generalize rd o (i:Int) / (Int.gcd (rd o (i:Int)) (rd u (j:Int)):Int)=a at *;generalize rd u (j:Int) / (Int.gcd (rd o (i:Int)) (rd u (j:Int)):Int)=b at *;have e1:rd (o.set i a) (i:Int)=a:=by rw[rd_set hi,if_pos rfl]
  have e2:(u.set j b).drop (j+1)=u.drop (j+1):=by rw[List.drop_set_of_lt (by omega)]
  have e3:(u.set j b).take (j+1)=u.take j++ [b]:=by
   rw[List.take_succ_eq_append_getElem (show j<(u.set j b).length by rw[List.length_set];omega),List.getElem_set_self,List.take_set_of_le (Nat.le_refl _)]
  have ih:=value_l1 u0 r i hi0 n (j+1) (o.set i a) (u.set j b) (by rw[List.length_set];omega) (by rw[List.length_set];omega) (by rw[List.length_set];omega) (by rw[e1];exact⟨d1,by omega⟩) (by rw[e2];exact hF2);rw[e1,e2,e3,List.set_set,List.append_assoc,List.length_set]at ih;exact ih H
theorem value_l0 (r:Int×Int×Bool):∀ (n i:Nat) (o u:List Int),i+n=o.length→o.length<1000→u.length<1000→Fs (o.drop i)→Fs u→Ev (fin_ (o.take i++(rdcAll (o.drop i) u).1) (rdcAll (o.drop i) u).2) r→Ev (fun k=>L_factors_value.l0 k o u (o.length:Int) (i:Int)) r
 |0,i,o,u,h,ho,hu,hFo,hFu,H=>by
  refine Ev.succ (f:=fun k=>L_factors_value.l0 k o u (o.length:Int) (i:Int)) ?_;rw[show o.drop i=[]from List.drop_eq_nil_of_le (by omega),show o.take i=o from List.take_of_length_le (by omega)]at H;simp only[rdcAll,List.append_nil]at H;simp only[L_factors_value.l0,show ¬ (i:Int)<(o.length:Int) by omega,if_false];exact H
 | n+1,i,o,u,h,ho,hu,hFo,hFu,H=>by
  refine Ev.succ (f:=fun k=>L_factors_value.l0 k o u (o.length:Int) (i:Int)) ?_;have hi:i<o.length:=by omega
  rw[drop_rd hi]at H hFo;have hx:=hFo _ List.mem_cons_self;have hF2:Fs (o.drop (i+1)):=fun x hx=>hFo x (List.mem_cons_of_mem _ hx);simp only[L_factors_value.l0,show(i:Int)<(o.length:Int) by omega,if_true];simp only[rdcAll]at H;have e0:((o.length:Nat):Int)=(o.length:Int):=rfl;refine value_l1 (o.length:Int) r i (by omega) u.length 0 o u (by omega) hu hi hx (by simpa using hFu) ?_;rw[List.drop_zero,List.take_zero,List.nil_append];obtain⟨s1,s2,s3,s4,s5,s6,s7,s8⟩:=rdc_spec u (rd o (i:Int)) hx.1 (fun v hv=>(hFu v hv).1);have hF3:Fs (rdc (rd o (i:Int)) u).2:=fun v hv=>⟨s4 v hv,s8 1000000000 (fun w hw=>(hFu w hw).2) v hv⟩;generalize rdc (rd o (i:Int)) u=q at *;have e2:(o.set i q.1).drop (i+1)=o.drop (i+1):=by rw[List.drop_set_of_lt (by omega)]
  have e3:(o.set i q.1).take (i+1)=o.take i++ [q.1]:=by
   rw[List.take_succ_eq_append_getElem (show i<(o.set i q.1).length by rw[List.length_set];omega),List.getElem_set_self,List.take_set_of_le (Nat.le_refl _)]
  have ih:=value_l0 r n (i+1) (o.set i q.1) q.2 (by rw[List.length_set];omega) (by rw[List.length_set];omega) (by omega) (by rw[e2];exact hF2) hF3;rw[e2,e3,List.append_assoc,List.length_set]at ih;exact ih H
theorem ip_zero:∀ {l:List Int},0∈l→ip l=0
 | [],h=>by cases h
 |x::r,h=>by
  simp only[ip]
  rcases List.mem_cons.mp h with e|h
  ·rw [← e,Int.zero_mul]
  ·rw [ip_zero h,Int.mul_zero]
theorem red_zero {b:Int} (hb:0<b):red 0 b=(0,1):=by
 unfold red;rw[Int.gcd_zero_left];rw[Int.zero_ediv]
 congr 1
 rw[show ((b.natAbs:Nat):Int)=b by omega];exact Int.ediv_self (by omega)
theorem value_ev (o u:List Int) (ho:o.length<1000) (hu:u.length<1000) (hFo:∀ x∈o,0≤x∧x≤1000000000) (hFu:Fs u):∃ a b,Ev (fun k=>L_factors_value.f k o u) (if smallP (red (ip o) (ip u))then((red (ip o) (ip u)).1,(red (ip o) (ip u)).2,true)else(a,b,false)):=by
  have hu0:=ip_ge hFu;have key:∃ a b,Ev (fun k=>(slices_Contains_int_int.f k o 0).bind fun t675=>(if t675=true then(some (0,1,true))else(L_factors_value.l0 k o u (o.length:Int) 0))) (if smallP (red (ip o) (ip u))then((red (ip o) (ip u)).1,(red (ip o) (ip u)).2,true)else(a,b,false)):=by
    by_cases h0:(0:Int)∈o
    · refine⟨0,0,?_⟩;refine Ev.bind (Contains_ev o 0 (by omega)) ?_;simp only[h0,decide_true,if_true];rw[ip_zero h0,red_zero (by omega),if_pos (by unfold smallP;simp)];exact Ev.some
    · have hFo2:Fs o:=fun x hx=>⟨by have:=hFo x hx;have:x≠0:=fun e=>h0 (e▸hx);omega,(hFo x hx).2⟩;obtain⟨s1,s2,s3,s4,s5,s6,s7⟩:=rdcAll_spec o u (fun x hx=>(hFo2 x hx).1) (fun x hx=>(hFu x hx).1);have F1:Fs (rdcAll o u).1:=fun x hx=>⟨s1 x hx,s7 1000000000 (fun y hy=>(hFo2 y hy).2) x hx⟩;have F2:Fs (rdcAll o u).2:=fun x hx=>⟨s2 x hx,s6 1000000000 (fun y hy=>(hFu y hy).2) x hx⟩;have hg:=gcd_ip _ _ s4;have p1:=ip_ge F1;have p2:=ip_ge F2;have o0:=ip_ge hFo2;obtain⟨g,g1,g2,g3,g4,g5⟩:=red_spec (a:=ip o) (b:=ip u) (by omega);have g6:0<(red (ip o) (ip u)).1:=by
        have:0<(red (ip o) (ip u)).1*g:=by omega
        exact Int.pos_of_mul_pos_left this g1
      have hcross:ip (rdcAll o u).1*(red (ip o) (ip u)).2=(red (ip o) (ip u)).1*ip (rdcAll o u).2:=by
        have:ip (rdcAll o u).1*((red (ip o) (ip u)).2*g)=(red (ip o) (ip u)).1*g*ip (rdcAll o u).2:=by rw[← g3, ←g2];exact s3
        have e2:(ip (rdcAll o u).1*(red (ip o) (ip u)).2)*g=((red (ip o) (ip u)).1*ip (rdcAll o u).2)*g:=by
          rw[Int.mul_assoc,this,Int.mul_assoc,Int.mul_assoc,Int.mul_comm g]
        exact Int.eq_of_mul_eq_mul_right (by omega) e2
      obtain⟨q1,q2⟩:=lowest_one (by omega) g6 hg g4 hcross;have hlen:∀ (os us:List Int),(rdcAll os us).1.length=os.length∧(rdcAll os us).2.length=us.length:=by
        intro os
        induction os with
        |nil=>intro us;exact⟨rfl,rfl⟩
        |cons x os ih=>intro us;simp only[rdcAll,List.length_cons];have:=ih (rdc x us).2;rw[rdc_len]at this;exact⟨by omega,by omega⟩
      have hl:=hlen o u;have eR:red (ip o) (ip u)=(ip (rdcAll o u).1,ip (rdcAll o u).2):=Prod.ext q1.symm q2.symm;rw[eR];refine⟨if ip (rdcAll o u).1≤1000000000 then ip (rdcAll o u).1 else 0,if ip (rdcAll o u).2≤1000000000 then ip (rdcAll o u).2 else 0,?_⟩;refine Ev.bind (Contains_ev o 0 (by omega)) ?_;simp only[h0,decide_false,Bool.false_eq_true,if_false];refine value_l0 _ o.length 0 o u (by omega) ho hu (by simpa using hFo2) hFu ?_;rw[List.drop_zero,List.take_zero,List.nil_append];unfold fin_;refine Ev.bind (product_ev _ F1 (by omega)) ?_;refine Ev.bind (product_ev _ F2 (by omega)) ?_;generalize ip (rdcAll o u).1=A at *;generalize ip (rdcAll o u).2=B at*
      by_cases c1:A≤1000000000
      · by_cases c2:B≤1000000000
        · rw[if_pos (show smallP (A,B)from⟨⟨by simp only;omega,c1⟩,p2,c2⟩)];simp only[c1,c2,if_true];exact Ev.some
        · rw[if_neg (fun h:smallP (A,B)=>c2 h.2.2)];simp only[c1,c2,if_true,if_false];exact Ev.some
      · rw[if_neg (fun h:smallP (A,B)=>c1 h.1.2)];simp only[c1,if_false,Bool.false_eq_true]
        by_cases c2:B≤1000000000
        · simp only[c2,if_true];exact Ev.some
        · simp only[c2,if_false];exact Ev.some
  obtain⟨a,b,h⟩:=key;refine⟨a,b,?_⟩;unfold L_factors_value.f;simp only[Clone_eq o (by omega),Clone_eq u (by omega),Option.bind_some];exact h
theorem times_eq (o u:List Int) (a b:Int) (ho:o.length<1000) (hu:u.length<1000):L_factors_times.f o u a b=some (o++ [a],u++ [b]):=by
 unfold L_factors_times.f;rw[if_pos (by omega),if_pos (by omega)]
theorem rd24_drop {l:List S24} {i:Nat} (h:i<l.length):l.drop i=rd_T24 l (i:Int)::l.drop (i+1):=by
 unfold rd_T24;exact drop_getD z24 h
theorem rd24_mem {l:List S24} {i:Nat} (h:i<l.length):rd_T24 l (i:Int)∈l:=by
 have:rd_T24 l (i:Int)∈l.drop i:=by rw[rd24_drop h];exact List.mem_cons_self
 exact List.mem_of_mem_drop this
def shE (f:S24):Int:=ptE f.f0 f.f1
def okS (f:S24):Prop:=ptE f.f0 f.f1=0
def sgs:List S24→Int→Int→Option (List S24)
 | [],_,_=>some []
 |f::r,a,b=>if smallP (red (a*f.f0) (b*f.f1))then(sgs r (a*(f.f1-f.f0)) (b*f.f1)).map (fun t=>(⟨(red (a*f.f0) (b*f.f1)).1,(red (a*f.f0) (b*f.f1)).2⟩:S24)::t)else none
def sgR (acc:List S24):Option (List S24)→List S24×Int
 |some t=>(acc++t,0)
 |none=>([],8)
theorem ip_snoc (l:List Int) (x:Int):ip (l++ [x])=ip l*x:=by rw[ip_append];simp[ip]
theorem Att_l0 (sh:List S24) (hs:∀ f∈sh,okS f) (hl:sh.length≤24):∀ (n i:Nat) (acc:List S24) (o u:List Int),i+n=sh.length→acc.length=i→o.length≤i+1→u.length≤i→(∀ x∈o,0≤x∧x≤1000000000)→Fs u→Ev (fun k=>L_Attenuated.l0 k acc sh (sh.length:Int) (i:Int) o u) (sgR acc (sgs (sh.drop i) (ip o) (ip u)))
  | 0,i,acc,o,u,h,ha,hol,hul,ho,hu=>by
    refine Ev.succ (f:=fun k=>L_Attenuated.l0 k acc sh (sh.length:Int) (i:Int) o u) ?_;simp only[L_Attenuated.l0,show ¬ (i:Int)<(sh.length:Int) by omega,if_false];rw[show sh.drop i=[]from List.drop_eq_nil_of_le (by omega)];simp only[sgs,sgR,List.append_nil];exact Ev.some
  | n + 1,i,acc,o,u,h,ha,hol,hul,ho,hu=>by
    refine Ev.succ (f:=fun k=>L_Attenuated.l0 k acc sh (sh.length:Int) (i:Int) o u) ?_;have hi:i<sh.length:=by omega
    have hf:=ptE_ok (hs _ (rd24_mem hi));rw[rd24_drop hi];simp only[L_Attenuated.l0,show(i:Int)<(sh.length:Int) by omega,show(0:Int)≤(i:Int) by omega,if_true,up (show i<4611686018427387904 by omega),show acc.length<8796093022208 by omega];generalize rd_T24 sh (i:Int)=f at *;rw[w64 (n:=f.f1-f.f0) (by omega)];simp only[times_eq o u _ _ (show o.length<1000 by omega) (show u.length<1000 by omega),Option.bind_some];have hu2:Fs (u++ [f.f1]):=fun x hx=>by
      rcases List.mem_append.mp hx with hx|hx
      · exact hu x hx
      · rw[List.mem_singleton]at hx;subst hx;omega
    obtain⟨a,b,hv⟩:=value_ev (o++ [f.f0]) (u++ [f.f1]) (by simp;omega) (by simp;omega) (fun x hx=>by
      rcases List.mem_append.mp hx with hx|hx
      · exact ho x hx
      · rw[List.mem_singleton]at hx;subst hx;omega) hu2
    refine Ev.bind hv ?_;rw[ip_snoc,ip_snoc];simp only[sgs]
    by_cases c:smallP (red (ip o*f.f0) (ip u*f.f1))
    · rw[if_pos c,if_pos c];simp only[if_true];have ih:=Att_l0 sh hs hl n (i+1) (acc++ [(⟨(red (ip o*f.f0) (ip u*f.f1)).1,(red (ip o*f.f0) (ip u*f.f1)).2⟩:S24)]) (o++ [f.f1-f.f0]) (u++ [f.f1]) (by omega) (by simp[ha]) (by simp;omega) (by simp;omega) (fun x hx=>by
        rcases List.mem_append.mp hx with hx|hx
        · exact ho x hx
        · rw[List.mem_singleton]at hx;subst hx;omega) hu2
      rw[ip_snoc,ip_snoc]at ih
      cases e:sgs (sh.drop (i+1)) (ip o*(f.f1-f.f0)) (ip u*f.f1)with
      |none=>rw[e]at ih;exact ih
      |some t=>rw[e]at ih;simp only[sgR,List.append_assoc,List.singleton_append]at ih;exact ih
    · rw[if_neg c,if_neg c];simp only[Bool.false_eq_true,if_false];exact Ev.some
def aE (sh:List S24) (c:Int):Int:=if(if sh.length=0 then 10 else if 24<sh.length then 8 else(chk shE sh 0).2)=0 then cE c else(if sh.length=0 then 10 else if 24<sh.length then 8 else(chk shE sh 0).2)
theorem wfS {sh:List S24} (h:∀ f∈sh,(-9223372036854775808≤f.f0∧f.f0≤9223372036854775807)∧(-9223372036854775808≤f.f1∧f.f1≤9223372036854775807)) {i:Nat} (hi:i<sh.length):(-9223372036854775808≤(rd_T24 sh (i:Int)).f0∧(rd_T24 sh (i:Int)).f0≤9223372036854775807)∧(-9223372036854775808≤(rd_T24 sh (i:Int)).f1∧(rd_T24 sh (i:Int)).f1≤9223372036854775807):=h _ (rd24_mem hi)
theorem eachS_l0 (sh:List S24) (hl:sh.length<4611686018427387904) (hw:∀ f∈sh,(-9223372036854775808≤f.f0∧f.f0≤9223372036854775807)∧(-9223372036854775808≤f.f1∧f.f1≤9223372036854775807)):∀ (n i:Nat),i+n=sh.length→Ev (fun k=>api_Frac_partErr.l0 k sh (sh.length:Int) (i:Int)) (chk shE (sh.drop i) i)
 |0,i,h=>by
  refine Ev.succ (f:=fun k=>api_Frac_partErr.l0 k sh (sh.length:Int) (i:Int)) ?_;simp only[api_Frac_partErr.l0,show ¬ (i:Int)<(sh.length:Int) by omega,if_false];rw[show sh.drop i=[]from List.drop_eq_nil_of_le (by omega)];exact Ev.some
 |n+1,i,h=>by
  refine Ev.succ (f:=fun k=>api_Frac_partErr.l0 k sh (sh.length:Int) (i:Int)) ?_;have hi:i<sh.length:=by omega
  have hx:=wfS hw hi;rw[rd24_drop hi];simp only[api_Frac_partErr.l0,show(i:Int)<(sh.length:Int) by omega,show(0:Int)≤(i:Int) by omega,if_true,up (show i<4611686018427387904 by omega)];refine Ev.bind (partErr_ev hx.1 hx.2) ?_;unfold chk
  show Ev _ (if shE (rd_T24 sh (i:Int))=0 then _ else _)
  by_cases e:shE (rd_T24 sh (i:Int))=0
  ·have e2:ptE (rd_T24 sh (i:Int)).f0 (rd_T24 sh (i:Int)).f1=0:=e;simp only[e,e2,if_true];exact eachS_l0 sh hl hw n (i+1) (by omega)
  ·have e2:¬ ptE (rd_T24 sh (i:Int)).f0 (rd_T24 sh (i:Int)).f1=0:=e;simp only[e,e2,if_false];exact Ev.some
theorem Attenuated_ev (sh:List S24) (c:Int) (hl:sh.length<4611686018427387904) (hw:∀ f∈sh,(-9223372036854775808≤f.f0∧f.f0≤9223372036854775807)∧(-9223372036854775808≤f.f1∧f.f1≤9223372036854775807)):Ev (fun k=>L_Attenuated.f k sh c) (if aE sh c=0 then sgR [] (sgs sh c 1)else([],aE sh c)):=by
 unfold L_Attenuated.f;simp only[unless_eq,Option.bind_some];refine Ev.bind (first_ev _ (by simp)) ?_;rw[fnz2]
 by_cases h1:sh.length=0
 ·have e:aE sh c=10:=by unfold aE;rw[if_pos h1,if_neg (by decide)]
  rw[e];simp only[h1,show ¬ ((0:Nat):Int)>0 by omega,decide_false,Bool.false_eq_true,if_false,show ¬ (10:Int)=0 by omega];exact Ev.some
 ·by_cases h2:24<sh.length
  ·have e:aE sh c=8:=by unfold aE;rw[if_neg h1,if_pos h2,if_neg (by decide)]
   rw[e];simp only[show (sh.length:Int)>0 by omega,show ¬ (sh.length:Int)≤24 by omega,decide_false,decide_true,Bool.false_eq_true,if_true,if_false,show ¬ (8:Int)=0 by omega];exact Ev.some
  ·have e:aE sh c=if(chk shE sh 0).2=0 then cE c else(chk shE sh 0).2:=by unfold aE;rw[if_neg h1,if_neg h2]
   rw[e];simp only[show (sh.length:Int)>0 by omega,show(sh.length:Int)≤24 by omega,decide_true,if_true];have h3:=eachS_l0 sh hl hw sh.length 0 (by omega);rw[List.drop_zero]at h3;refine Ev.bind (f:=fun k=>api_Frac_partErr.f k sh) h3 ?_;simp only[constantErr_eq,Option.bind_some];refine Ev.bind (first_ev _ (by simp)) ?_;rw[fnz2];generalize hu:(if(chk shE sh 0).2=0 then cE c else(chk shE sh 0).2)=v at*
   by_cases h:v=0
   ·rw [h]at hu;simp only[h,if_true];have hk:(chk shE sh 0).2=0:=by split at hu<;>assumption
    rw[if_pos hk]at hu;have hc:=cE_ok hu;have:=Att_l0 sh (fun f hf=>chk_all hk f hf) (by omega) sh.length 0 [] [c] [] (by omega) rfl (by simp) (by simp) (fun x hx=>by rw[List.mem_singleton]at hx;subst hx;omega) (fun x hx=>by cases hx);simp only[ip,Int.mul_one,List.drop_zero]at this;exact this
   ·simp only[h,if_false];exact Ev.some
def Dg (L:Nat) (z:Int):Prop:=z.natAbs<1000000000 ^ L
theorem dg2 {z:Int} (h: -2000000000≤z∧z≤2000000000):Dg 2 z:=by
 have e:(1000000000:Nat) ^ 2=1000000000000000000:=by decide
 unfold Dg;rw[e];omega
theorem Dg.len {L:Nat} {z:Int} (h:Dg L z):(dn z.natAbs).length≤L:=dn_len h
theorem Dg.mul {L M:Nat} {a b:Int} (ha:Dg L a) (hb:Dg M b):Dg (L+M) (a*b):=by
 unfold Dg at *;rw[Int.natAbs_mul,Nat.pow_add]
 rcases Nat.eq_zero_or_pos b.natAbs with h0|h0
 ·rw [h0,Nat.mul_zero];exact Nat.mul_pos (Nat.lt_of_le_of_lt (Nat.zero_le _) ha) (Nat.lt_of_le_of_lt (Nat.zero_le _) hb)
 ·exact Nat.lt_of_lt_of_le (Nat.mul_lt_mul_of_pos_right ha h0) (Nat.mul_le_mul_left _ (Nat.le_of_lt hb))
theorem Dg.le {L:Nat} {a b:Int} (h:Dg L b) (hab:a.natAbs≤b.natAbs):Dg L a:=Nat.lt_of_le_of_lt hab h
theorem Dg.up {L M:Nat} {a:Int} (h:Dg L a) (hLM:L≤M):Dg M a:=Nat.lt_of_lt_of_le h (Nat.pow_le_pow_right (by decide) hLM)
theorem Dg.sub {L:Nat} {a b:Int} (ha:Dg L a) (hb:Dg L b):Dg (L+1) (a-b):=by
 unfold Dg at *;rw[Nat.pow_succ]
 omega
theorem red_nat {a b:Int} (hb:0<b):(red a b).1.natAbs≤a.natAbs∧(red a b).2.natAbs≤b.natAbs:=by
 obtain⟨g,g1,g2,g3,_,_⟩:=red_spec (a:=a) (b:=b) hb
 constructor
 ·conv=>rhs;rw[g2]
  rw[Int.natAbs_mul];exact Nat.le_mul_of_pos_right _ (by omega)
 ·conv=>rhs;rw[g3]
  rw[Int.natAbs_mul];exact Nat.le_mul_of_pos_right _ (by omega)
theorem RatioInt_ev {c:Int} (hc:1≤c∧c≤1000000):Ev (fun k=>Bs_RatioInt.f k c) (Rt (red c 1)):=by
 unfold Bs_RatioInt.f;rw[red_self (show Int.gcd c 1=1 by simp)];refine Ev.bind (WideOf_ev (by omega)) ?_;exact Ev.bind (WideOf_ev (by omega)) Ev.some
theorem RatioFrom_ev {n d:Int} (h:ptE n d=0):Ev (fun k=>Bs_RatioFrom.f k n d) (Rt (n,d)):=by
 have ho:=ptE_ok h;unfold Bs_RatioFrom.f Bs_RatioOf.f;have e:Rt (n,d)=Rt (red n d):=by rw[red_self ho.2.2.2.2]
 rw[e];have big:=fun x:Int=>@big3 x;refine Ev.bind (a:=Rt (red n d)) ?_ Ev.some;refine Ev.bind (WideOf_ev (by omega)) ?_;refine Ev.bind (WideOf_ev (by omega)) ?_;refine Ev.bind (RatioMake_ev (by omega) ?_ ?_) Ev.some
 ·have:=dn_len (big3 (x:=n) (by omega));omega
 ·have:=dn_len (big3 (x:=d) (by omega));omega
theorem RatioMul_ev {p q:Int×Int} (hp:0<p.2) (hq:0<q.2) {L:Nat} (hL:L<100000) (p1:Dg L p.1) (p2:Dg L p.2) (q1:Dg L q.1) (q2:Dg L q.2):Ev (fun k=>Bs_RatioMul.f k (Rt p).1 (Rt p).2.1 (Rt p).2.2.1 (Rt p).2.2.2 (Rt q).1 (Rt q).2.1 (Rt q).2.2.1 (Rt q).2.2.2) (Rt (red (p.1*q.1) (p.2*q.2))):=by
 unfold Bs_RatioMul.f;have b1:L+L<1000000000000:=by omega
 have b2:L+L<1000000:=by omega
 refine Ev.bind (WideMul_ev (a:=p.1) (b:=q.1) (Nat.lt_of_le_of_lt (Nat.add_le_add p1.len q1.len) b1)) ?_;refine Ev.bind (WideMul_ev (a:=p.2) (b:=q.2) (Nat.lt_of_le_of_lt (Nat.add_le_add p2.len q2.len) b1)) ?_;exact Ev.bind (RatioMake_ev (a:=p.1*q.1) (b:=p.2*q.2) (Int.mul_pos hp hq) (Nat.lt_of_le_of_lt (p1.mul q1).len b2) (Nat.lt_of_le_of_lt (p2.mul q2).len b2)) Ev.some
theorem neg_sub_eq (a b c:Int):a+ -b*c=a-b*c:=by rw[Int.neg_mul];rfl
theorem sub_gen (k:Nat) (a:Int) (b:List Int) (c:Int) (d:List Int) (s:Int) (D:List Int) (s':Int) (D':List Int) (x:Int) (y:List Int) (h:Bs_WideNeg.f s D=some (s',D')):Bs_RatioSub.f k a b c d s D x y=(Bs_RatioAdd.f k a b c d s' D' x y).bind fun t=>some (t.1,t.2.1,t.2.2.1,t.2.2.2):=by
 unfold Bs_RatioSub.f Bs_RatioNeg.f;rw[h,Option.bind_some,Option.bind_some]
theorem neg_gen (z:Int):Bs_WideNeg.f (wd z).1 (wd z).2=some ((wd (-z)).1,(wd (-z)).2):=by
 have h:=WideNeg_eq z;generalize wd (-z)=W at h ⊢;exact h
theorem RatioAdd_ev {a b c d:Int} (hb:0<b) (hd:0<d) {L:Nat} (hL:L<100000) (p1:Dg L a) (p2:Dg L b) (q1:Dg L c) (q2:Dg L d):Ev (fun k=>Bs_RatioAdd.f k (wd a).1 (wd a).2 (wd b).1 (wd b).2 (wd c).1 (wd c).2 (wd d).1 (wd d).2) (Rt (red (a*d+c*b) (b*d))):=by
 have b1:L+L<1000000000000:=by omega
 have b2:L+L<1000000:=by omega
 have b3:L+L<1000000000:=by omega
 have b4:L+L+1<1000000:=by omega
 unfold Bs_RatioAdd.f;refine Ev.bind (WideMul_ev (Nat.lt_of_le_of_lt (Nat.add_le_add p1.len q2.len) b1)) ?_;refine Ev.bind (WideMul_ev (Nat.lt_of_le_of_lt (Nat.add_le_add q1.len p2.len) b1)) ?_;refine Ev.bind (WideAdd_ev (Nat.lt_of_le_of_lt (p1.mul q2).len b3) (Nat.lt_of_le_of_lt (q1.mul p2).len b3)) ?_;refine Ev.bind (WideMul_ev (Nat.lt_of_le_of_lt (Nat.add_le_add p2.len q2.len) b1)) ?_;have ha:Dg (L+L+1) (a*d+c*b):=by
  have:=(p1.mul q2).sub (((q1.mul p2).le (Nat.le_of_eq (Int.natAbs_neg _)):Dg (L+L) (-(c*b))));rw[Int.sub_neg]at this;exact this
 exact Ev.bind (RatioMake_ev (Int.mul_pos hb hd) (Nat.lt_of_le_of_lt ha.len b4) (Nat.lt_of_le_of_lt (p2.mul q2).len b2)) Ev.some
theorem RatioSub_ev {p q:Int×Int} (hp:0<p.2) (hq:0<q.2) {L:Nat} (hL:L<100000) (p1:Dg L p.1) (p2:Dg L p.2) (q1:Dg L q.1) (q2:Dg L q.2):Ev (fun k=>Bs_RatioSub.f k (Rt p).1 (Rt p).2.1 (Rt p).2.2.1 (Rt p).2.2.2 (Rt q).1 (Rt q).2.1 (Rt q).2.2.1 (Rt q).2.2.2) (Rt (red (p.1*q.2-q.1*p.2) (p.2*q.2))):=by
 have q1n:Dg L (-q.1):=q1.le (Nat.le_of_eq (Int.natAbs_neg _));have add:=RatioAdd_ev hp hq hL p1 p2 q1n q2;rw[neg_sub_eq]at add;exact Ev.congr (fun k=>(sub_gen k _ _ _ _ _ _ _ _ _ _ (neg_gen q.1)).symm) (Ev.bind add Ev.some)
theorem red_scale {a b c:Int} (hc:0<c) (hb:0<b):red (c*a) (c*b)=red a b:=by rw[Int.mul_comm c a,Int.mul_comm c b];exact red_mul hc hb
theorem red_times {a b n d:Int} (hb:0<b) (hd:0<d):red (n*(red a b).1) (d*(red a b).2)=red (a*n) (b*d):=by
 obtain⟨g,g1,g2,g3,_,g5⟩:=red_spec (a:=a) (b:=b) hb;have h:=red_mul (a:=n*(red a b).1) (b:=d*(red a b).2) (c:=g) g1 (Int.mul_pos hd g5);rw[← h];rw[Int.mul_assoc, ←g2,Int.mul_assoc, ←g3,Int.mul_comm n,Int.mul_comm d]
theorem red_rest {a b n d:Int} (hb:0<b) (hd:0<d):red ((red a b).1*(red (a*n) (b*d)).2-(red (a*n) (b*d)).1*(red a b).2) ((red a b).2*(red (a*n) (b*d)).2)=red (a*(d-n)) (b*d):=by
 obtain⟨g,g1,g2,g3,_,g5⟩:=red_spec (a:=a) (b:=b) hb;obtain⟨h,h1,h2,h3,_,h5⟩:=red_spec (a:=a*n) (b:=b*d) (Int.mul_pos hb hd);generalize (red a b).1=p at *;generalize (red a b).2=q at *;generalize (red (a*n) (b*d)).1=u at *;generalize (red (a*n) (b*d)).2=v at *;have e1:=red_mul (a:=p*v-u*q) (b:=q*v) (c:=g*h) (Int.mul_pos g1 h1) (Int.mul_pos g5 h5);rw[← e1];have e2:=red_scale (a:=a*(d-n)) (b:=b*d) (c:=b) hb (Int.mul_pos hb hd);rw[← e2];have k1:(p*v-u*q)*(g*h)=b*(a*(d-n)):=by
  have:(p*v-u*q)*(g*h)=(p*g)*(v*h)-(u*h)*(q*g):=by rw[Int.sub_mul];congr 1<;>ac_rfl
  rw[this, ←g2, ←h3, ←h2, ←g3,Int.mul_sub a d n,Int.mul_sub b]
  congr 1<;>ac_rfl
 have k2:q*v*(g*h)=b*(b*d):=by
  have:q*v*(g*h)=(q*g)*(v*h):=by ac_rfl
  rw[this, ←g3, ←h3]
 rw[k1,k2]
def sgB (acc:List S24):Option (List S24)→List S24×Bool
 |some t=>(acc++t,true)
 |none=>([],false)
theorem Sig_l0 (sh:List S24) (hs:∀ f∈sh,okS f) (hl:sh.length≤24):∀ (n i:Nat) (acc:List S24) (a b:Int),i+n=sh.length→acc.length=i→0<b→Dg (3*i+3) a→Dg (3*i+3) b→Ev (fun k=>Rf_Signals.l0 k sh acc (i:Int) (Rt (red a b)).1 (Rt (red a b)).2.1 (Rt (red a b)).2.2.1 (Rt (red a b)).2.2.2) (sgB acc (sgs (sh.drop i) a b))
  | 0,i,acc,a,b,h,ha,hb,da,db=>by
    refine Ev.succ (f:=fun k=>Rf_Signals.l0 k sh acc (i:Int) (Rt (red a b)).1 (Rt (red a b)).2.1 (Rt (red a b)).2.2.1 (Rt (red a b)).2.2.2) ?_;simp only[Rf_Signals.l0,show ¬ (i:Int)<(sh.length:Int) by omega,if_false];rw[show sh.drop i=[]from List.drop_eq_nil_of_le (by omega)];simp only[sgs,sgB,List.append_nil];exact Ev.some
  | n +1,i,acc,a,b,h,ha,hb,da,db=>by
    refine Ev.succ (f:=fun k=>Rf_Signals.l0 k sh acc (i:Int) (Rt (red a b)).1 (Rt (red a b)).2.1 (Rt (red a b)).2.2.1 (Rt (red a b)).2.2.2) ?_;have hi:i<sh.length:=by omega
    have hf0:=hs _ (rd24_mem hi);have hf:=ptE_ok hf0;rw[rd24_drop hi];simp only[Rf_Signals.l0,show(i:Int)<(sh.length:Int) by omega,show(0:Int)≤(i:Int) by omega,if_true,up (show i<4611686018427387904 by omega),show acc.length<8796093022208 by omega];generalize rd_T24 sh (i:Int)=f at *;have hrn:=red_nat (a:=a) hb;obtain⟨g,g1,g2,g3,_,g5⟩:=red_spec (a:=a) (b:=b) hb;have dn0:Dg 2 f.f0:=dg2 (by omega);have dn1:Dg 2 f.f1:=dg2 (by omega);have dnm:Dg 2 (f.f1-f.f0):=dg2 (by omega);have ra:=da.le hrn.1;have rb:=db.le hrn.2;refine Ev.bind (RatioFrom_ev hf0) ?_;refine Ev.bind (RatioMul_ev (p:=(f.f0,f.f1)) (q:=red a b) (L:=3*i+3) (by simp only;omega) g5 (by omega) (dn0.up (by omega)) (dn1.up (by omega)) ra rb) ?_;rw[red_times hb (by omega)];refine Ev.bind (RatioFrac_ev (red (a*f.f0) (b*f.f1))) ?_;simp only[sgs]
    by_cases c:smallP (red (a*f.f0) (b*f.f1))
    · rw[if_pos c,if_pos c];simp only[if_true];have hpos:0<b*f.f1:=Int.mul_pos hb (by omega);obtain⟨k,k1,k2,k3,_,k5⟩:=red_spec (a:=a*f.f0) (b:=b*f.f1) hpos;have hrn2:=red_nat (a:=a*f.f0) hpos;have da2:Dg (3*(i+1)+3) (a*(f.f1-f.f0)):=(da.mul dnm).up (by omega);have db2:Dg (3*(i+1)+3) (b*f.f1):=(db.mul dn1).up (by omega);refine Ev.bind (RatioSub_ev (p:=red a b) (q:=red (a*f.f0) (b*f.f1)) (L:=3*i+6) g5 k5 (by omega) (ra.up (by omega)) (rb.up (by omega)) (((da.mul dn0).le hrn2.1).up (by omega)) (((db.mul dn1).le hrn2.2).up (by omega))) ?_;rw[red_rest hb (by omega)];have ih:=Sig_l0 sh hs hl n (i+1) (acc++ [(⟨(red (a*f.f0) (b*f.f1)).1,(red (a*f.f0) (b*f.f1)).2⟩:S24)]) (a*(f.f1-f.f0)) (b*f.f1) (by omega) (by simp[ha]) hpos da2 db2
      cases e:sgs (sh.drop (i+1)) (a*(f.f1-f.f0)) (b*f.f1)with
      |none=>rw[e]at ih;exact ih
      |some t=>rw[e]at ih;simp only[sgB,List.append_assoc,List.singleton_append]at ih;exact ih
    · rw[if_neg c,if_neg c];simp only[Bool.false_eq_true,if_false];exact Ev.some
theorem Signals_ev (sh:List S24) (c:Int) (hs:∀ f∈sh,okS f) (hl:sh.length≤24) (hc:1≤c∧c≤1000000):Ev (fun k=>Rf_Signals.f k sh c) (sgB [] (sgs sh c 1)):=by
 unfold Rf_Signals.f;refine Ev.bind (RatioInt_ev hc) ?_;have hd:Dg 3 c:=by
  have e:(1000000000:Nat) ^ 3=1000000000000000000000000000:=by decide
  unfold Dg;rw[e];omega
 have:=Sig_l0 sh hs hl sh.length 0 [] c 1 (by omega) rfl (by omega) hd (by unfold Dg;decide);rw[List.drop_zero]at this;exact this
theorem awake_ev:Ev (fun k=>Lw_awake.f k) true:=
 Ev.of_mono (k:=1500) (fun k=>Lw_awake.mono k) (by kernel_rfl)
theorem brk_more:∀ (l:List Int) (c d:Int),0≤d→brk l c=0→brk l (c+d)=0
 | [],c,d,hd,h=>by unfold brk at h ⊢;split at h;exact absurd h (by simp);rw[if_neg (by omega)]
 | x::r,c,d,hd,h=>by
  unfold brk at h ⊢
  split at h
  ·exact absurd h (by simp)
  ·rename_i hc
   rw[if_neg (by omega),show c+d-x=(c-x)+d by omega];exact brk_more r _ d hd h
def sps:List S24→List S24→List S74
 |a::x,b::y=>⟨a,b⟩::sps x y
 |_,_=> []
theorem sps_len:∀ (x y:List S24),x.length=y.length→(sps x y).length=x.length
 | [],[],_=>rfl
 |a::x,b::y,h=>by simp[sps,sps_len x y (by simpa using h)]
theorem UndoneIn_l0 (g s:List S24) (e:s.length=g.length) (hl:s.length≤30):∀ (n i:Nat) (acc:List S74),i+n=s.length→acc.length=i→Ev (fun k=>L_UndoneIn.l0 k g acc s (s.length:Int) (i:Int)) (acc++sps (s.drop i) (g.drop i),0)
 |0,i,acc,h,ha=>by
  refine Ev.succ (f:=fun k=>L_UndoneIn.l0 k g acc s (s.length:Int) (i:Int)) ?_;simp only[L_UndoneIn.l0,show ¬ (i:Int)<(s.length:Int) by omega,if_false];rw[show s.drop i=[]from List.drop_eq_nil_of_le (by omega)];simp only[sps,List.append_nil];exact Ev.some
 |n+1,i,acc,h,ha=>by
  refine Ev.succ (f:=fun k=>L_UndoneIn.l0 k g acc s (s.length:Int) (i:Int)) ?_;have hi:i<s.length:=by omega
  rw[rd24_drop hi,rd24_drop (show i<g.length by omega)];simp only[L_UndoneIn.l0,show(i:Int)<(s.length:Int) by omega,show(0:Int)≤(i:Int) by omega,show(i:Int)<(g.length:Int) by omega,if_true,up (show i<4611686018427387904 by omega),show acc.length<4398046511104 by omega,sps];have:=UndoneIn_l0 g s e hl n (i+1) (acc++ [(⟨rd_T24 s (i:Int),rd_T24 g (i:Int)⟩:S74)]) (by omega) (by simp[ha]);rw[List.append_assoc]at this;exact this
def uE (l:List Int) (a b:Int):Int:=if(pE l).2=0 then(if cE a=0 then(if cE b=0 then(if a≤b then 0 else 9)else cE b)else cE a)else(pE l).2
theorem UndoneIn_ev (l:List Int) (a b:Int) (hl:l.length<4611686018427387904):Ev (fun k=>L_UndoneIn.f k l a b) (if uE l a b=0 then(if brk l a=0 then(sps (shs l b) (shs l a),0)else([],20))else([],uE l a b)):=by
 unfold L_UndoneIn.f;refine Ev.bind (open_ev l hl) ?_;simp only[constantErr_eq,unless_eq,Option.bind_some,decide_eq_true_eq];refine Ev.bind (first_ev _ (by simp)) ?_;rw[fnz4];have e:(if(pE l).2=0 then(if cE a=0 then(if cE b=0 then(if a≤b then 0 else 9)else cE b)else cE a)else(pE l).2)=uE l a b:=rfl;rw[e]
 by_cases h:uE l a b=0
 ·simp only[h,if_true];unfold uE at h
  split at h
  ·split at h
   ·split at h
    ·split at h
     ·rename_i q1 q2 q3 q4
      obtain⟨p1,p2,p3⟩:=pE_ok q1;have c1:=cE_ok q2;have c2:=cE_ok q3;refine Ev.bind (shares_ev l a (by omega) p3 p2) ?_
      by_cases hb:brk l a=0
      ·have hb2:brk l b=0:=by
        have:=brk_more l a (b-a) (by omega) hb;rw[show a+(b-a)=b by omega]at this;exact this
       simp only[hb,if_true];refine Ev.bind (shares_ev l b (by omega) p3 p2) ?_;simp only[hb2,if_true];have:=UndoneIn_l0 (shs l a) (shs l b) (by rw[shs_length,shs_length]) (by rw[shs_length];omega) (shs l b).length 0 [] (by omega) rfl;rw[List.drop_zero,List.drop_zero,List.nil_append]at this;exact this
      ·simp only[hb,if_false,show ¬ (20:Int)=0 by omega];exact Ev.some
     ·exact absurd h (by simp)
    ·rename_i q;exact absurd h q
   ·rename_i q;exact absurd h q
  ·rename_i q;exact absurd h q
 ·simp only[h,if_false];exact Ev.some
theorem CopyFracs_eq (l:List S24) (h:l.length<4611686018427):Bs_CopyFracs.f l=some l:=by
 unfold Bs_CopyFracs.f;simp only[Option.bind_some,List.length_nil,List.nil_append];rw[if_pos (by omega)]
theorem SharesErr_l0 (sh:List S24) (hl:sh.length<4611686018427387904) (hw:∀ f∈sh,(-9223372036854775808≤f.f0∧f.f0≤9223372036854775807)∧(-9223372036854775808≤f.f1∧f.f1≤9223372036854775807)):∀ (n i:Nat),i+n=sh.length→Ev (fun k=>Rf_SharesErr.l0 k sh (i:Int)) (chk shE (sh.drop i) i).2
 |0,i,h=>by
  refine Ev.succ (f:=fun k=>Rf_SharesErr.l0 k sh (i:Int)) ?_;simp only[Rf_SharesErr.l0,show ¬ (i:Int)<(sh.length:Int) by omega,if_false];rw[show sh.drop i=[]from List.drop_eq_nil_of_le (by omega)];exact Ev.some
 |n+1,i,h=>by
  refine Ev.succ (f:=fun k=>Rf_SharesErr.l0 k sh (i:Int)) ?_;have hi:i<sh.length:=by omega
  have hx:=wfS hw hi;rw[rd24_drop hi];simp only[Rf_SharesErr.l0,show(i:Int)<(sh.length:Int) by omega,show(0:Int)≤(i:Int) by omega,if_true,up (show i<4611686018427387904 by omega)];refine Ev.bind (PartErr_ev hx.1 hx.2) ?_;unfold chk
  by_cases e:shE (rd_T24 sh (i:Int))=0
  ·have e2:ptE (rd_T24 sh (i:Int)).f0 (rd_T24 sh (i:Int)).f1=0:=e;rw[if_pos e];simp only[e2,if_true];exact SharesErr_l0 sh hl hw n (i+1) (by omega)
  ·have e2:¬ ptE (rd_T24 sh (i:Int)).f0 (rd_T24 sh (i:Int)).f1=0:=e;rw[if_neg e];simp only[e2,if_false];exact Ev.some
def sE2 (sh:List S24):Int:=if sh.length=0 then 10 else if 24<sh.length then 8 else(chk shE sh 0).2
theorem aE_eq (sh:List S24) (c:Int):aE sh c=if sE2 sh=0 then cE c else sE2 sh:=rfl
theorem SharesErr_ev (sh:List S24) (hl:sh.length<4611686018427387904) (hw:∀ f∈sh,(-9223372036854775808≤f.f0∧f.f0≤9223372036854775807)∧(-9223372036854775808≤f.f1∧f.f1≤9223372036854775807)):Ev (fun k=>Rf_SharesErr.f k sh) (sE2 sh):=by
 unfold Rf_SharesErr.f sE2
 by_cases h1:sh.length=0
 ·simp only[h1];exact Ev.some
 ·by_cases h2:24<sh.length
  ·simp only[h1,h2,show ¬ (sh.length:Int)=0 by omega,show(sh.length:Int)>24 by omega,if_true,if_false];exact Ev.some
  ·simp only[h1,h2,show ¬ (sh.length:Int)=0 by omega,show ¬ (sh.length:Int)>24 by omega,if_false];have:=SharesErr_l0 sh hl hw sh.length 0 (by omega);rw[List.drop_zero]at this;exact this
theorem sE2_ok {sh:List S24} (h:sE2 sh=0):sh.length≤24∧∀ f∈sh,okS f:=by
 unfold sE2 at h
 split at h
 ·exact absurd h (by simp)
 split at h
 ·exact absurd h (by simp)
 exact⟨by omega,fun f hf=>chk_all h f hf⟩
theorem Spans_l0 (l:List Int) (x y:List S24) (e1:x.length=l.length) (e2:y.length=l.length) (hl:l.length≤24):∀ (n i:Nat) (acc:List S74),i+n=l.length→acc.length=i→Ev (fun k=>Rf_Spans.l0 k l x y acc (i:Int)) (acc++sps (x.drop i) (y.drop i))
 |0,i,acc,h,ha=>by
  refine Ev.succ (f:=fun k=>Rf_Spans.l0 k l x y acc (i:Int)) ?_;simp only[Rf_Spans.l0,show ¬ (i:Int)<(l.length:Int) by omega,if_false];rw[show x.drop i=[]from List.drop_eq_nil_of_le (by omega)];simp only[sps,List.append_nil];exact Ev.some
 |n+1,i,acc,h,ha=>by
  refine Ev.succ (f:=fun k=>Rf_Spans.l0 k l x y acc (i:Int)) ?_;rw[rd24_drop (show i<x.length by omega),rd24_drop (show i<y.length by omega)];simp only[Rf_Spans.l0,show(i:Int)<(l.length:Int) by omega,show(0:Int)≤(i:Int) by omega,show(i:Int)<(x.length:Int) by omega,show(i:Int)<(y.length:Int) by omega,if_true,up (show i<4611686018427387904 by omega),show acc.length<4398046511104 by omega,sps];have:=Spans_l0 l x y e1 e2 hl n (i+1) (acc++ [(⟨rd_T24 x (i:Int),rd_T24 y (i:Int)⟩:S74)]) (by omega) (by simp[ha]);rw[List.append_assoc]at this;exact this
theorem Spans_ev (l:List Int) (a b:Int) (ha:0≤a∧a≤4000000) (hb:0≤b∧b≤4000000) (hl:l.length≤24) (hx:∀ x∈l,0≤x∧x≤10000) (ka:brk l a=0) (kb:brk l b=0):Ev (fun k=>Rf_Spans.f k l a b) (sps (shs l b) (shs l a)):=by
 unfold Rf_Spans.f;refine Ev.bind (Shares_ev l b hb hx hl kb) ?_;refine Ev.bind (Shares_ev l a ha hx hl ka) ?_;have:=Spans_l0 l (shs l b) (shs l a) (shs_length l b) (shs_length l a) hl l.length 0 [] (by omega) rfl;rw[List.drop_zero,List.drop_zero,List.nil_append]at this;exact this
theorem SameSpans_l0 (x:List S74) (hl:x.length<4611686018427387904):∀ (n i:Nat),i+n=x.length→Ev (fun k=>Rf_SameSpans.l0 k x x (i:Int)) true
 |0,i,h=>by
  refine Ev.succ (f:=fun k=>Rf_SameSpans.l0 k x x (i:Int)) ?_;simp only[Rf_SameSpans.l0,show ¬ (i:Int)<(x.length:Int) by omega,if_false];exact Ev.some
 |n+1,i,h=>by
  refine Ev.succ (f:=fun k=>Rf_SameSpans.l0 k x x (i:Int)) ?_;simp only[Rf_SameSpans.l0,show(i:Int)<(x.length:Int) by omega,show(0:Int)≤(i:Int) by omega,if_true,beq_self_eq_true,Bool.not_true,Bool.or_self,Bool.false_eq_true,if_false,up (show i<4611686018427387904 by omega)];exact SameSpans_l0 x hl n (i+1) (by omega)
theorem SameSpans_ev (x:List S74) (hl:x.length<4611686018427387904):Ev (fun k=>Rf_SameSpans.f k x x) true:=by
 unfold Rf_SameSpans.f;simp only[if_true];exact SameSpans_l0 x hl x.length 0 (by omega)
theorem sgs_len:∀ (sh:List S24) (a b:Int) (t:List S24),sgs sh a b=some t→t.length=sh.length
  | [],a,b,t,h=>by simp only[sgs,Option.some.injEq]at h;subst h;rfl
  | f ::r,a,b,t,h=>by
    simp only[sgs]at h
    split at h
    · cases e:sgs r (a*(f.f1-f.f0)) (b*f.f1)with
      |none=>rw[e]at h;simp at h
      | some u=>
        rw[e]at h;simp only[Option.map_some,Option.some.injEq]at h;subst h
        simp[sgs_len r _ _ u e]
    · exact absurd h (by simp)
theorem spans_j4 (sh X:List S24) (e a b:Int) (hl:sh.length<4611686018427387904) (hw:∀ f∈sh,(-9223372036854775808≤f.f0∧f.f0≤9223372036854775807)∧(-9223372036854775808≤f.f1∧f.f1≤9223372036854775807)) (h:(X,e)=if aE sh a=0 then sgR [] (sgs sh a 1)else([],aE sh a)):Ev (fun k=>Lw_CloudSpans.j4 k sh X e false a b) true:=by
 refine Ev.succ (f:=fun k=>Lw_CloudSpans.j4 k sh X e false a b) ?_;simp only[Lw_CloudSpans.j4,Bool.false_eq_true,if_false];refine Ev.bind (SharesErr_ev sh hl hw) ?_;simp only[ConstantErr_eq,both_eq,Option.bind_some];rw[← aE_eq]
 by_cases c:aE sh a=0
 ·rw [if_pos c]at h;simp only[c,if_true];have c2:=c;rw[aE_eq]at c2;have hs:sE2 sh=0:=by split at c2<;>assumption
  rw[if_pos hs]at c2;obtain⟨s1,s2⟩:=sE2_ok hs;refine Ev.bind (Signals_ev sh a s2 s1 (cE_ok c2)) ?_
  cases e1:sgs sh a 1 with
  |none=>
   rw[e1]at h;simp only[sgR,Prod.mk.injEq]at h;obtain⟨rfl,rfl⟩:=h;simp only[sgB,Bool.false_eq_true,if_false,if_true,List.length_nil];exact Ev.some
  |some t=>
   rw[e1]at h;simp only[sgR,Prod.mk.injEq,List.nil_append]at h;obtain⟨rfl,rfl⟩:=h;simp only[sgB,if_true,List.nil_append];have:=sgs_len sh a 1 _ e1;exact Ev.bind (Fracs_ev _ (by omega)) Ev.some
 ·rw [if_neg c]at h;simp only[Prod.mk.injEq]at h;obtain⟨rfl,rfl⟩:=h;simp only[c,if_false,if_true,List.length_nil];exact Ev.some
theorem spans_j3 (l:List Int) (sh:List S24) (Y:List S74) (f:Int) (X:List S24) (e d a b:Int) (hl:l.length<4611686018427387904) (h4:Ev (fun k=>Lw_CloudSpans.j4 k sh X e false a b) true) (h:if d=0 then f=0∧Y=sps (shs l b) (shs l a)∧uE l a b=0∧brk l a=0 else f=d∧Y=[]):Ev (fun k=>Lw_CloudSpans.j3 k l sh Y f X e d a b) true:=by
 refine Ev.succ (f:=fun k=>Lw_CloudSpans.j3 k l sh Y f X e d a b) ?_;simp only[Lw_CloudSpans.j3]
 by_cases c:d=0
 ·rw [if_pos c]at h;obtain⟨h1,h2,h3,h5⟩:=h;simp only[c,h1,if_true];unfold uE at h3
  split at h3
  ·split at h3
   ·split at h3
    ·split at h3
     ·rename_i q1 q2 q3 q4
      obtain⟨p1,p2,p3⟩:=pE_ok q1;have c1:=cE_ok q2;have c2:=cE_ok q3;have kb:brk l b=0:=by
       have:=brk_more l a (b-a) (by omega) h5;rw[show a+(b-a)=b by omega]at this;exact this
      refine Ev.bind (Spans_ev l a b (by omega) (by omega) p2 p3 h5 kb) ?_;rw[h2];refine Ev.bind (SameSpans_ev _ (by rw[sps_len _ _ (by rw[shs_length,shs_length]),shs_length];omega)) ?_;exact h4
     ·exact absurd h3 (by simp)
    ·rename_i q;exact absurd h3 q
   ·rename_i q;exact absurd h3 q
  ·rename_i q;exact absurd h3 q
 ·rw [if_neg c]at h;obtain⟨h1,h2⟩:=h;subst h1 h2;simp only[c,if_false,if_true,List.length_nil,show((0:Nat):Int)=0 from rfl];exact h4
theorem CloudSpans_pure (l:List Int) (_:l.length≤maxLen) (_:∀ x∈l,(Lit.int .i64 x).wf=true) (a:Int) (ha0:(Lit.int .i64 a).wf=true) (b:Int) (hb0:(Lit.int .i64 b).wf=true) (sh:List S24) (hsh:sh.length≤maxLen∧∀ x∈sh,(Lit.int .i64 x.f0).wf=true∧(Lit.int .i64 x.f1).wf=true):∃ k,Lw_CloudSpans.f k l a b sh=some true:=by
 have hw:∀ f∈sh,(-9223372036854775808≤f.f0∧f.f0≤9223372036854775807)∧(-9223372036854775808≤f.f1∧f.f1≤9223372036854775807):=fun f hf=>⟨i64_in (hsh.2 f hf).1,i64_in (hsh.2 f hf).2⟩
 apply Ev.ex (f:=fun k=>Lw_CloudSpans.f k l a b sh)
 unfold Lw_CloudSpans.f;refine Ev.bind awake_ev ?_;have jt:Ev (fun k=>Lw_CloudSpans.j0 k l sh true a b) true:=by
  refine Ev.succ (f:=fun k=>Lw_CloudSpans.j0 k l sh true a b) ?_;simp only[Lw_CloudSpans.j0,if_true];exact Ev.some
 simp only[few_eq,if_true,Option.bind_some,decide_eq_true_eq]
 by_cases hf:l.length≤26
 ·have hl:l.length<4611686018427387904:=by omega
  simp only[hf,if_true]
  by_cases hs:(sh.length:Int)>26
  ·rw [show decide ((sh.length:Int)>26)=true from decide_eq_true hs];exact jt
  ·rw [show decide ((sh.length:Int)>26)=false from decide_eq_false hs];refine Ev.succ (f:=fun k=>Lw_CloudSpans.j0 k l sh false a b) ?_;simp only[Lw_CloudSpans.j0,Bool.false_eq_true,if_false,CopyInts_eq l (by omega),Option.bind_some];have hU:=UndoneIn_ev l a b hl;generalize hYe:(if uE l a b=0 then(if brk l a=0 then(sps (shs l b) (shs l a),(0:Int))else([],20))else([],uE l a b))=Yf at hU;refine Ev.bind hU ?_;simp only[CopyFracs_eq sh (by omega),Option.bind_some];have hA:=Attenuated_ev sh a (by omega) hw;generalize hXe:(if aE sh a=0 then sgR [] (sgs sh a 1)else([],aE sh a))=Xe at hA;refine Ev.bind hA ?_;refine Ev.bind (ProfileErr_ev l hl) ?_;simp only[ConstantErr_eq,both_eq,Option.bind_some];have h4:=spans_j4 sh Xe.1 Xe.2 a b (by omega) hw hXe.symm;have j3:∀ d:Int,(if d=0 then Yf.2=0∧Yf.1=sps (shs l b) (shs l a)∧uE l a b=0∧brk l a=0 else Yf.2=d∧Yf.1=[])→Ev (fun k=>Lw_CloudSpans.j3 k l sh Yf.1 Yf.2 Xe.1 Xe.2 d a b) true:=fun d h=>spans_j3 l sh Yf.1 Yf.2 Xe.1 Xe.2 d a b hl h4 h;have j2:∀ d:Int,(d=uE l a b)→Ev (fun k=>Lw_CloudSpans.j2 k l sh Yf.1 Yf.2 Xe.1 Xe.2 d a b) true:=by
    intro d hd;refine Ev.succ (f:=fun k=>Lw_CloudSpans.j2 k l sh Yf.1 Yf.2 Xe.1 Xe.2 d a b) ?_;simp only[Lw_CloudSpans.j2]
    by_cases c:d=0
    ·simp only[c,if_true];rw[c]at hd;rw[if_pos hd.symm]at hYe;have h3:=hd.symm;have q1:(pE l).2=0:=by unfold uE at h3;split at h3<;>assumption
     obtain⟨p1,p2,p3⟩:=pE_ok q1;have q2:cE a=0:=by unfold uE at h3;rw[if_pos q1]at h3;split at h3<;>assumption
     have c1:=cE_ok q2;refine Ev.bind (Break_ev l a (by omega) p3 p2) ?_;refine j3 _ ?_
     rcases brk_two l a with e|e
     ·rw [if_pos e]at hYe;rw[← hYe,if_pos e];exact⟨rfl,rfl,hd.symm,e⟩
     ·rw [if_neg (by omega)]at hYe;rw[← hYe,if_neg (by omega)];exact⟨e.symm,rfl⟩
    ·simp only[c,if_false];refine j3 d ?_;rw[if_neg c];rw[if_neg (by omega)]at hYe;rw[← hYe];exact⟨hd.symm,rfl⟩
   have j1:∀ (d:Int) (q:Bool),(if q=true then 9 else d)=uE l a b→Ev (fun k=>Lw_CloudSpans.j1 k l sh Yf.1 Yf.2 Xe.1 Xe.2 d q a b) true:=by
    intro d q h;refine Ev.succ (f:=fun k=>Lw_CloudSpans.j1 k l sh Yf.1 Yf.2 Xe.1 Xe.2 d q a b) ?_;simp only[Lw_CloudSpans.j1]
    by_cases c:q=true
    ·rw [if_pos c]at h;simp only[c,if_true];exact j2 9 h
    ·rw [if_neg c]at h;simp only[c,if_false];exact j2 d h
   generalize hD:(if(pE l).2=0 then(if cE a=0 then cE b else cE a)else(pE l).2)=D;have hu:uE l a b=if D=0 then(if a≤b then 0 else 9)else D:=by
    unfold uE;rw[← hD]
    by_cases q1:(pE l).2=0
    ·rw [if_pos q1,if_pos q1]
     by_cases q2:cE a=0
     ·rw [if_pos q2,if_pos q2]
     ·rw [if_neg q2,if_neg q2,if_neg q2]
    ·rw [if_neg q1,if_neg q1,if_neg q1]
   by_cases c:D=0
   ·rw [if_pos c]at hu;simp only[c,if_true];refine j1 0 _ ?_;rw[hu]
    by_cases q:a≤b
    ·rw [if_pos q,if_neg (by simp;omega)]
    ·rw [if_neg q,if_pos (by simp;omega)]
   ·rw [if_neg c]at hu;simp only[c,if_false];exact j1 D false (by rw[hu];rfl)
 ·simp only[hf,if_false];exact jt
end Go.Proofs.YteiafijbgjgiaaaGreat.P
