/-
PLAIN LAW: what the walks compute answers as the statement says (no program in sight; Ev: from some number of rounds on).
-/
import Derived.Test.YteiafijbgjgiaaaGreatA04
namespace Go.Proofs.YteiafijbgjgiaaaGreat.P
open Go Go.RowKit Go.Proofs.YteiafijbgjgiaaaGreat.A Go.Proofs.YteiafijbgjgiaaaGreatW.PrintWords Go.Proofs.YteiafijbgjgiaaaGreatW.PrintLast Go.Proofs.YteiafijbgjgiaaaGreatW.PrintMore
set_option linter.unusedSimpArgs false
set_option linter.unusedVariables false
def Ev {α:Type} (f:Nat→Option α) (r:α):Prop:=∃ k,∀ j,k≤j→f j=some r

theorem Ev.some {α:Type} {r:α}:Ev (fun _=>Option.some r) r:=⟨0,fun _ _=>rfl⟩
theorem Ev.bind {α β:Type} {f:Nat→Option α} {g:Nat→α→Option β} {a:α} {b:β} (h:Ev f a) (h2:Ev (fun k=>g k a) b):Ev (fun k=>(f k).bind (g k)) b:=by
 obtain⟨k,hk⟩:=h;obtain⟨m,hm⟩:=h2;exact⟨max k m,fun j hj=>by show(f j).bind (g j)=_;rw[hk j (by omega)];exact hm j (by omega)⟩
theorem Ev.succ {α:Type} {f:Nat→Option α} {r:α} (h:Ev (fun k=>f (k+1)) r):Ev f r:=by
 obtain⟨k,hk⟩:=h;exact⟨k+1,fun j hj=>by obtain⟨m,rfl⟩:∃ m,j=m+1:=⟨j-1,by omega⟩;exact hk m (by omega)⟩
theorem Ev.congr {α:Type} {f g:Nat→Option α} {r:α} (e:∀ k,f k=g k) (h:Ev f r):Ev g r:=by
 obtain⟨k,hk⟩:=h;exact⟨k,fun j hj=>by rw[← e j];exact hk j hj⟩
theorem Ev.ex {α:Type} {f:Nat→Option α} {r:α} (h:Ev f r):∃ k,f k=Option.some r:=let ⟨k,hk⟩:=h;⟨k,hk k (Nat.le_refl _)⟩
theorem Ev.of_mono {α:Type} {f:Nat→Option α} {r:α} (hm:∀ k,LeO (f k) (f (k+1))) {k:Nat} (h:f k=Option.some r):Ev f r:=by
  refine⟨k,fun j hj=>?_⟩
  induction j with
  | zero => obtain rfl:k=0:=by omega
            exact h
  | succ j ih=>
    by_cases e:k=j+1
    · subst e;exact h
    · exact hm j r (ih (by omega))
theorem Ev.iff {α:Type} {f:Nat→Option α} {r s:α} (h:Ev f r) (h2:Ev f s):r=s:=by
 obtain⟨k,hk⟩:=h;obtain⟨m,hm⟩:=h2;exact Option.some.inj ((hk (max k m) (by omega)).symm.trans (hm (max k m) (by omega)))

theorem up {i:Nat} (h:i<4611686018427387904):wrap64 ((i:Int)+1)=((i+1:Nat):Int):=by
 unfold wrap64;omega
theorem w64 {n:Int} (h: -9223372036854775808≤n∧n≤9223372036854775807):wrap64 n=n:=by unfold wrap64;omega
theorem rd_nat (l:List Int) (i:Nat):rd l (i:Int)=l.getD i 0:=by unfold rd;simp
theorem drop_rd {l:List Int} {i:Nat} (h:i<l.length):l.drop i=rd l (i:Int)::l.drop (i+1):=by
 rw[rd_nat,List.drop_eq_getElem_cons h]
 simp[List.getD_eq_getElem?_getD,h]
theorem drop_getD {α:Type} {l:List α} {i:Nat} (z:α) (h:i<l.length):l.drop i=l.getD i z::l.drop (i+1):=by
 rw[List.drop_eq_getElem_cons h]
 simp[List.getD_eq_getElem?_getD,h]

theorem mx_eq (a b:Int):mx a b=max a b:=by unfold mx;split<;>omega
theorem i64_in {n:Int} (h:(Lit.int .i64 n).wf=true): -9223372036854775808≤n∧n≤9223372036854775807:=by
 simp[Lit.wf,IntKind.min,IntKind.max,IntKind.signed,IntKind.bits]at h
 omega

theorem within_eq (a b c:Int):L_within.f a b c=some (decide (b≤a∧a≤c)):=by
 unfold L_within.f
 by_cases h:b≤a<;>simp[h]
theorem Within_eq (a b c:Int):Bs_Within.f a b c=some (decide (b≤a∧a≤c)):=by
 unfold Bs_Within.f
 by_cases h:b≤a<;>simp[h]
theorem unless_eq (b:Bool) (e:Int):L_unless.f b e=some (if b=true then 0 else e):=by
 unfold L_unless.f
 cases b<;>simp
theorem Size_eq (a:Int):Bs_Size.f a=some (mx a (wrap64 (-a))):=rfl

def fnz:List Int→Int
 | []=>0
 |x::r=>if x=0 then fnz r else x

theorem first_l0 (l:List Int) (hl:l.length<4611686018427387904):∀ (n i:Nat),i+n=l.length→Ev (fun k=>L_first.l0 k l (l.length:Int) (i:Int)) (fnz (l.drop i))
 |0,i,h=>by
  refine Ev.succ (f:=fun k=>L_first.l0 k l (l.length:Int) (i:Int)) ?_;have h1:¬ (i:Int)<(l.length:Int):=by omega
  simp only[L_first.l0,h1,if_false];rw[show l.drop i=[]from List.drop_eq_nil_of_le (by omega)];exact Ev.some
 |n+1,i,h=>by
  refine Ev.succ (f:=fun k=>L_first.l0 k l (l.length:Int) (i:Int)) ?_;have h1:(i:Int)<(l.length:Int):=by omega
  have h2:(0:Int)≤(i:Int):=by omega
  simp only[L_first.l0,h1,h2,if_true,up (show i<4611686018427387904 by omega)];rw[drop_rd (show i<l.length by omega)];unfold fnz
  by_cases e:rd l (i:Int)=0
  ·simp only[e,if_true];exact first_l0 l hl n (i+1) (by omega)
  ·simp only[e,if_false];exact Ev.some
theorem first_ev (l:List Int) (hl:l.length<4611686018427387904):Ev (fun k=>L_first.f k l) (fnz l):=first_l0 l hl l.length 0 (by omega)

theorem size_abs {x:Int} (h: -9223372036854775807≤x∧x≤9223372036854775807):mx x (wrap64 (-x))=(x.natAbs:Int):=by
 rw[w64 (n:= -x) (by omega),mx_eq];omega
theorem gcd_step (x y:Int):Int.gcd y (x.tmod y)=Int.gcd x y:=by
 show Nat.gcd y.natAbs (x.tmod y).natAbs=Nat.gcd x.natAbs y.natAbs
 rw[Int.natAbs_tmod,Nat.gcd_comm, ←Nat.gcd_rec,Nat.gcd_comm]
theorem tmod_in {x y:Int} (h0:y≠0):(x.tmod y).natAbs<y.natAbs:=by
 rw[Int.natAbs_tmod];exact Nat.mod_lt _ (by omega)
theorem Gcd_l0:∀ (m:Nat) (x y:Int),y.natAbs≤m→x.natAbs<9223372036854775808→y.natAbs<9223372036854775808→Ev (fun k=>Bs_Gcd.l0 k x y) (Int.gcd x y:Int)
 |0,x,y,h,hx,_=>by
  refine Ev.succ (f:=fun k=>Bs_Gcd.l0 k x y) ?_;obtain rfl:y=0:=by omega
  simp only[Bs_Gcd.l0,if_true,Size_eq,Option.bind_some,size_abs (x:=x) (by omega),Int.gcd_zero_right];exact Ev.some
 |m+1,x,y,h,hx,hy=>by
  refine Ev.succ (f:=fun k=>Bs_Gcd.l0 k x y) ?_
  by_cases h0:y=0
  ·subst h0;simp only[Bs_Gcd.l0,if_true,Size_eq,Option.bind_some,size_abs (x:=x) (by omega),Int.gcd_zero_right];exact Ev.some
  ·simp only[Bs_Gcd.l0,h0,if_false];have ht:=tmod_in (x:=x) h0;rw[← gcd_step x y];exact Gcd_l0 m y (x.tmod y) (by omega) hy (by omega)
theorem divisor_l0:∀ (m:Nat) (x y:Int),y.natAbs≤m→x.natAbs<9223372036854775808→y.natAbs<9223372036854775808→Ev (fun k=>L_divisor.l0 k x y) (Int.gcd x y:Int)
 |0,x,y,h,hx,_=>by
  refine Ev.succ (f:=fun k=>L_divisor.l0 k x y) ?_;obtain rfl:y=0:=by omega
  simp only[L_divisor.l0,if_true,size_abs (x:=x) (by omega),Int.gcd_zero_right];exact Ev.some
 |m+1,x,y,h,hx,hy=>by
  refine Ev.succ (f:=fun k=>L_divisor.l0 k x y) ?_
  by_cases h0:y=0
  ·subst h0;simp only[L_divisor.l0,if_true,size_abs (x:=x) (by omega),Int.gcd_zero_right];exact Ev.some
  ·simp only[L_divisor.l0,h0,if_false];have ht:=tmod_in (x:=x) h0;rw[← gcd_step x y];exact divisor_l0 m y (x.tmod y) (by omega) hy (by omega)
theorem CopyInts_eq (l:List Int) (h:l.length<4611686018427):Bs_CopyInts.f l=some l:=by
 unfold Bs_CopyInts.f;simp only[Option.bind_some,List.length_nil,List.nil_append];rw[if_pos (by omega)]
theorem few_eq (l:List Int):Lw_few.f l=some (decide (l.length≤26)):=by
 unfold Lw_few.f;congr 2;apply propext;omega
def chk {α:Type} (p:α→Int):List α→Nat→Int×Int
 | [],_=>(0,0)
 |x::r,i=>if p x=0 then chk p r (i+1)else((i:Int),p x)
theorem chk_all {α:Type} {p:α→Int}:∀ {l:List α} {i:Nat},(chk p l i).2=0→∀ x∈l,p x=0
 | [],i,_=>by simp
 | y::r,i,h=>by
  unfold chk at h
  split at h<;>rename_i e
  ·intro x hx
   rcases List.mem_cons.mp hx with rfl|hx
   ·exact e
   ·exact chk_all h x hx
  ·exact absurd h e
theorem chk_loop {α:Type} (z:α) (p:α→Int) (l:List α) (hl:l.length<4611686018427387904) (F:Nat→Int→Option (Int×Int))
  (h0:∀ k i,¬ i<(l.length:Int)→F (k+1) i=some (0,0))
  (h1:∀ k (i:Nat),i<l.length→F (k+1) (i:Int)=if p (l.getD i z)=0 then F k (wrap64 ((i:Int)+1))else some ((i:Int),p (l.getD i z))):
  ∀ (n i:Nat),i+n=l.length→Ev (fun k=>F k (i:Int)) (chk p (l.drop i) i)
 |0,i,h=>by
  refine Ev.succ (f:=fun k=>F k (i:Int)) ?_;rw[show l.drop i=[]from List.drop_eq_nil_of_le (by omega)];exact Ev.congr (fun k=>(h0 k i (by omega)).symm) Ev.some
 |n+1,i,h=>by
  refine Ev.succ (f:=fun k=>F k (i:Int)) ?_;refine Ev.congr (fun k=>(h1 k i (by omega)).symm) ?_;rw[drop_getD z (show i<l.length by omega)];unfold chk
  by_cases e:p (l.getD i z)=0
  ·simp only[e,if_true,up (show i<4611686018427387904 by omega)];exact chk_loop z p l hl F h0 h1 n (i+1) (by omega)
  ·simp only[e,if_false];exact Ev.some
theorem isSignal_eq (a:Int):L_isSignal.f a=some (decide (0≤a∧a≤10000)):=by
 unfold L_isSignal.f;rw[within_eq];rfl
theorem isConstant_eq (a:Int):L_isConstant.f a=some (decide (1≤a∧a≤1000000)):=by
 unfold L_isConstant.f;rw[within_eq];rfl
def sE (x:Int):Int:=if 0≤x∧x≤10000 then 0 else 2
def pE (l:List Int):Int×Int:=if l.length=0 then(0,10)else if 24<l.length then(0,8)else chk sE l 0
theorem CheckProfile_1_eq (a:Int):L_CheckProfile_1.f a=some (sE a):=by
 unfold L_CheckProfile_1.f sE;simp only[isSignal_eq,unless_eq,Option.bind_some,decide_eq_true_eq]
theorem each_profile_ev (l:List Int) (hl:l.length<4611686018427387904):Ev (fun k=>L_each_int_CheckProfile_1.f k l) (chk sE l 0):=by
 refine chk_loop 0 sE l hl (fun k i=>L_each_int_CheckProfile_1.l0 k l (l.length:Int) i) (fun k i h=>?_) (fun k i h=>?_) l.length 0 (by omega)
 ·simp only[L_each_int_CheckProfile_1.l0,h,if_false]
 ·simp only[L_each_int_CheckProfile_1.l0,show(i:Int)<(l.length:Int) by omega,show(0:Int)≤(i:Int) by omega,if_true,CheckProfile_1_eq,Option.bind_some,rd_nat]
theorem CheckProfile_ev (l:List Int) (hl:l.length<4611686018427387904):Ev (fun k=>L_CheckProfile.f k l) (pE l):=by
 unfold L_CheckProfile.f;simp only[unless_eq,Option.bind_some];refine Ev.bind (first_ev _ (by simp)) ?_;unfold pE
 by_cases h1:l.length=0
 ·simp only[h1,show ¬ ((0:Nat):Int)>0 by omega,decide_false,fnz];exact Ev.some
 ·by_cases h2:24<l.length
  ·simp only[h1,h2,show(l.length:Int)>0 by omega,show ¬ (l.length:Int)≤24 by omega,decide_false,decide_true,fnz,if_true,if_false];exact Ev.some
  ·simp only[h1,h2,show(l.length:Int)>0 by omega,show(l.length:Int)≤24 by omega,decide_true,fnz,if_true,if_false];exact Ev.bind (each_profile_ev l hl) Ev.some
theorem RefCheckProfile_ev (l:List Int) (hl:l.length<4611686018427387904):Ev (fun k=>Rf_CheckProfile.f k l) (pE l):=by
 unfold Rf_CheckProfile.f pE
 by_cases h1:l.length=0
 ·simp only[h1];exact Ev.some
 ·by_cases h2:24<l.length
  ·simp only[h1,h2,show ¬ (l.length:Int)=0 by omega,show(l.length:Int)>24 by omega,if_true,if_false];exact Ev.some
  ·simp only[h1,h2,show ¬ (l.length:Int)=0 by omega,show ¬ (l.length:Int)>24 by omega,if_false];refine chk_loop 0 sE l hl (fun k i=>Rf_CheckProfile.l0 k l i) (fun k i h=>?_) (fun k i h=>?_) l.length 0 (by omega)
   ·simp only[Rf_CheckProfile.l0,h,if_false]
   ·simp only[Rf_CheckProfile.l0,show(i:Int)<(l.length:Int) by omega,show(0:Int)≤(i:Int) by omega,if_true,Within_eq,Option.bind_some,rd_nat,sE,decide_eq_true_eq]
    split<;>simp
theorem open_ev (l:List Int) (hl:l.length<4611686018427387904):Ev (fun k=>L_open.f k l) (l,(pE l).2):=by
 unfold L_open.f;exact Ev.bind (CheckProfile_ev l hl) Ev.some
theorem pE_ok {l:List Int} (h:(pE l).2=0):0<l.length∧l.length≤24∧∀ x∈l,0≤x∧x≤10000:=by
 unfold pE at h
 split at h
 ·exact absurd h (by simp)
 split at h
 ·exact absurd h (by simp)
 refine⟨by omega,by omega,fun x hx=>?_⟩;have:=chk_all h x hx;unfold sE at this
 split at this<;>omega
def sm:List Int→Int
 | []=>0
 |x::r=>x+sm r
theorem sm_append (a b:List Int):sm (a++b)=sm a+sm b:=by
  induction a with
  |nil=>simp[sm]
  |cons x r ih=>simp only[List.cons_append,sm,ih];omega
theorem sm_nonneg:∀ {l:List Int},(∀ x∈l,0≤x∧x≤10000)→0≤sm l∧sm l≤10000*(l.length:Int)
 | [],_=>by simp[sm]
 |x::r,h=>by
  have:=sm_nonneg (l:=r) (fun y hy=>h y (List.mem_cons_of_mem _ hy));have h2:=h x List.mem_cons_self;simp only[sm,List.length_cons];omega
theorem take_succ_sm {l:List Int} {i:Nat} (h:i<l.length):sm (l.take (i+1))=sm (l.take i)+l.getD i 0:=by
 rw[List.take_add_one,sm_append]
 simp[List.getD_eq_getElem?_getD,h,sm]
theorem sm_take {l:List Int} (hb:∀ x∈l,0≤x∧x≤10000) (i:Nat) (hl:l.length≤24):0≤sm (l.take i)∧sm (l.take i)≤240000:=by
 have:=sm_nonneg (l:=l.take i) (fun x hx=>hb x (List.mem_of_mem_take hx));have h2:(l.take i).length≤24:=by rw[List.length_take];omega
 omega
theorem sum_l0 (l:List Int) (hb:∀ x∈l,0≤x∧x≤10000) (hl:l.length≤24):∀ (n i:Nat),i+n=l.length→Ev (fun k=>L_profile_sum.l0 k (sm (l.take i)) l (l.length:Int) (i:Int)) (sm l)
 |0,i,h=>by
  refine Ev.succ (f:=fun k=>L_profile_sum.l0 k (sm (l.take i)) l (l.length:Int) (i:Int)) ?_;simp only[L_profile_sum.l0,show ¬ (i:Int)<(l.length:Int) by omega,if_false];rw[List.take_of_length_le (by omega)];exact Ev.some
 |n+1,i,h=>by
  refine Ev.succ (f:=fun k=>L_profile_sum.l0 k (sm (l.take i)) l (l.length:Int) (i:Int)) ?_;have hi:i<l.length:=by omega
  have h1:=sm_take hb i hl;have h2:=sm_take hb (i+1) hl;rw[take_succ_sm hi]at h2;simp only[L_profile_sum.l0,show(i:Int)<(l.length:Int) by omega,show(0:Int)≤(i:Int) by omega,if_true,up (show i<4611686018427387904 by omega),rd_nat];rw[w64 (n:=sm (l.take i)+l.getD i 0) (by omega), ←take_succ_sm hi];exact sum_l0 l hb hl n (i+1) (by omega)
theorem sum_ev (l:List Int) (hb:∀ x∈l,0≤x∧x≤10000) (hl:l.length≤24):Ev (fun k=>L_profile_sum.f k l) (sm l):=by
 have:=sum_l0 l hb hl l.length 0 (by omega);exact this
theorem Rest_l0 (l:List Int) (c:Int) (hc: -4000000≤c∧c≤4000000) (hb:∀ x∈l,0≤x∧x≤10000) (hl:l.length≤24) (g:Nat) (hg:g≤l.length):∀ (n i:Nat),i+n=g→Ev (fun k=>Rf_Rest.l0 k l (c-sm (l.take i)) (g:Int) (i:Int)) (c-sm (l.take g))
 |0,i,h=>by
  refine Ev.succ (f:=fun k=>Rf_Rest.l0 k l (c-sm (l.take i)) (g:Int) (i:Int)) ?_;simp only[Rf_Rest.l0,show ¬ (i:Int)<(g:Int) by omega,if_false];rw[show i=g by omega];exact Ev.some
 |n+1,i,h=>by
  refine Ev.succ (f:=fun k=>Rf_Rest.l0 k l (c-sm (l.take i)) (g:Int) (i:Int)) ?_;have hi:i<l.length:=by omega
  have h1:=sm_take hb i hl;have h2:=sm_take hb (i+1) hl;rw[take_succ_sm hi]at h2;simp only[Rf_Rest.l0,show(i:Int)<(g:Int) by omega,show(i:Int)<(l.length:Int) by omega,show(0:Int)≤(i:Int) by omega,if_true,up (show i<4611686018427387904 by omega),rd_nat];rw[w64 (n:=c-sm (l.take i)-l.getD i 0) (by omega),show c-sm (l.take i)-l.getD i 0=c-sm (l.take (i+1)) by rw[take_succ_sm hi];omega];exact Rest_l0 l c hc hb hl g hg n (i+1) (by omega)
theorem Rest_ev (l:List Int) (c:Int) (hc: -4000000≤c∧c≤4000000) (hb:∀ x∈l,0≤x∧x≤10000) (hl:l.length≤24) (g:Nat) (hg:g≤l.length):Ev (fun k=>Rf_Rest.f k l c (g:Int)) (c-sm (l.take g)):=by
 have:=Rest_l0 l c hc hb hl g hg g 0 (by omega);rw[show c-sm (l.take 0)=c by simp[sm]]at this;exact this
def cE (a:Int):Int:=if 1≤a∧a≤1000000 then 0 else 2
theorem constantErr_eq (a:Int):L_constantErr.f a=some (cE a):=by
 unfold L_constantErr.f cE;simp only[isConstant_eq,unless_eq,Option.bind_some,decide_eq_true_eq]
theorem ConstantErr_eq (a:Int):Rf_ConstantErr.f a=some (cE a):=by
 unfold Rf_ConstantErr.f cE;simp only[Within_eq,Option.bind_some,decide_eq_true_eq]
 split<;>rfl
abbrev St:=Option (List S40×S40)
def fl:St→List S40
 |none=> []
 |some (b,r)=>b++ [r]
def stepG (gap:Int) (s:St) (i:Int):St:=
 match s with
 |none=>some ([],⟨i,i⟩)
 |some (b,r)=>if i-r.f1-1≤gap then some (b,⟨r.f0,i⟩)else some (b++ [r],⟨i,i⟩)
def stepM (gap:Int) (s:St) (q:S40):St:=
 match s with
 |none=>some ([],q)
 |some (b,r)=>if q.f0-r.f1-1≤gap then some (b,⟨r.f0,q.f1⟩)else some (b++ [r],q)
def G (p:Int→Bool) (gap:Int):Nat→St
 |0=>none
 |n+1=>if p (n:Int)=true then stepG gap (G p gap n) (n:Int)else G p gap n
def mf (gap:Int) (l:List S40):St:=l.foldl (stepM gap) none
theorem mf_snoc (gap:Int) (l:List S40) (q:S40):mf gap (l++ [q])=stepM gap (mf gap l) q:=by simp[mf,List.foldl_append]
theorem G_last (p:Int→Bool) (gap:Int):∀ (n:Nat) (b:List S40) (r:S40),G p gap n=some (b,r)→r.f1<n∧p r.f1=true∧∀ k:Int,r.f1<k→k<n→p k=false
  |0,b,r,h=>by simp[G]at h
  | n + 1,b,r,h=>by
    unfold G at h
    by_cases c:p (n:Int)=true
    · rw[if_pos c]at h
      cases e:G p gap n with
      |none=>rw[e]at h;simp only[stepG,Option.some.injEq,Prod.mk.injEq]at h;obtain⟨_,rfl⟩:=h;exact⟨by simp;omega,c,fun k h1 h2=>by simp at h1;omega⟩
      | some s=>
        obtain⟨b',r'⟩:=s;rw[e]at h;simp only[stepG]at h
        split at h<;>(simp only[Option.some.injEq,Prod.mk.injEq]at h;obtain⟨_,rfl⟩:=h;exact⟨by simp;omega,c,fun k h1 h2=>by simp at h1;omega⟩)
    · rw[if_neg c]at h;obtain⟨h1,h2,h3⟩:=G_last p gap n b r h;refine⟨by omega,h2,fun k hk hk2=>?_⟩
      by_cases e:k=n
      · subst e;simpa using c
      · exact h3 k hk (by omega)
theorem mf_runs (p:Int→Bool) (gap:Int) (hg:0≤gap):∀ n,mf gap (fl (G p 0 n))=G p gap n
  |0=>rfl
  | n + 1 =>by
    have ih:=mf_runs p gap hg n;unfold G
    by_cases c:p (n:Int)=true
    · rw [if_pos c,if_pos c]
      cases e:G p 0 n with
      | none=>
        rw[e]at ih;simp only[fl,mf,List.foldl_nil]at ih;rw[← ih];rfl
      | some s=>
        obtain⟨b,r⟩:=s;obtain⟨h1,h2,h3⟩:=G_last p 0 n b r e;rw[e]at ih;simp only[fl,mf_snoc]at ih;simp only[stepG]
        by_cases d:(n:Int)-r.f1-1≤0
        · rw[if_pos d];simp only[fl,mf_snoc];rw[← ih];have hn:(n:Int)-r.f1-1≤gap:=by omega
          cases mf gap b with
          |none=>simp only[stepM];rw[if_pos hn]
          | some s=>
            obtain⟨b',r'⟩:=s;simp only[stepM]
            by_cases f:r.f0-r'.f1-1≤gap
            · simp only[f,if_true];rw[if_pos hn]
            · simp only[f,if_false];rw[if_pos hn]
        · rw[if_neg d];have:fl (some (b++ [r],(⟨(n:Int),(n:Int)⟩:S40)))=(b++ [r])++ [(⟨(n:Int),(n:Int)⟩:S40)]:=rfl;rw[this,mf_snoc,mf_snoc,ih]
          cases G p gap n with
          |none=>rfl
          |some s=>rfl
    · rw[if_neg c,if_neg c];exact ih
def cnt (p:Int→Bool):Nat→Int
 |0=>0
 |n+1=>cnt p n+if p (n:Int)=true then 1 else 0
def inn (p:Int→Bool) (gap:Int):Nat→Int→Int→Int→Option (Int×Int)
 |0,_,g,c=>some (g,c)
 |n+1,k,g,c=>if(if p k=true then 0 else g+1)>gap then none else inn p gap n (k+1) (if p k=true then 0 else g+1) (if p k=true then c+1 else c)
theorem inn_add (p:Int→Bool) (gap:Int):∀ (m n:Nat) (k g c g' c':Int),inn p gap m k g c=some (g',c')→inn p gap (m+n) k g c=inn p gap n (k+m) g' c'
 |0,n,k,g,c,g',c',h=>by
  simp only[inn,Option.some.injEq,Prod.mk.injEq]at h;obtain⟨rfl,rfl⟩:=h
  simp
 |m+1,n,k,g,c,g',c',h=>by
  rw[show m+1+n=(m+n)+1 by omega];have e:inn p gap (m+n+1) k g c=if(if p k=true then 0 else g+1)>gap then none else inn p gap (m+n) (k+1) (if p k=true then 0 else g+1) (if p k=true then c+1 else c):=rfl;rw[e];unfold inn at h
  by_cases hc:(if p k=true then 0 else g+1)>gap
  ·rw [if_pos hc]at h;exact absurd h (by simp)
  ·rw [if_neg hc]at h;rw[if_neg hc,inn_add p gap m n _ _ _ _ _ h,show k+1+(m:Int)=k+((m+1:Nat):Int) by omega]
theorem inn_gap (p:Int→Bool) (gap:Int):∀ (m:Nat) (k g c:Int),(∀ j:Int,k≤j→j<k+m→p j=false)→g+m≤gap→inn p gap m k g c=some (g+m,c)
 |0,k,g,c,_,_=>by simp[inn]
 |m+1,k,g,c,h,hg=>by
  unfold inn;have h0:p k=false:=h k (by omega) (by omega);simp only[h0,Bool.false_eq_true,if_false];rw[if_neg (by omega),inn_gap p gap m (k+1) (g+1) c (fun j h1 h2=>h j (by omega) (by omega)) (by omega)]
  congr 2;omega
def Good (p:Int→Bool) (gap:Int) (r:S40) (q:Int):Prop:=0≤r.f0∧r.f0≤r.f1∧p r.f0=true∧p r.f1=true∧∀ c,inn p gap (r.f1+1-r.f0).toNat r.f0 0 c=some (0,c+q)
theorem Good.one (p:Int→Bool) (gap:Int) (hg:0≤gap) {i:Int} (h0:0≤i) (h:p i=true):Good p gap ⟨i,i⟩ 1:=by
 refine⟨h0,Int.le_refl _,h,h,fun c=>?_⟩;rw[show ((⟨i,i⟩:S40).f1+1-(⟨i,i⟩:S40).f0).toNat=0+1 by simp;omega];simp only[inn,h,if_true];rw[if_neg (by omega)]
theorem Good.more (p:Int→Bool) (gap:Int) (hg:0≤gap) {r:S40} {q i:Int} (H:Good p gap r q) (h1:r.f1<i) (h:p i=true) (h2:∀ k:Int,r.f1<k→k<i→p k=false) (h3:i-r.f1-1≤gap):Good p gap ⟨r.f0,i⟩ (q+1):=by
 obtain⟨a1,a2,a3,a4,a5⟩:=H;refine⟨a1,by simp;omega,a3,h,fun c=>?_⟩;have e:((⟨r.f0,i⟩:S40).f1+1-(⟨r.f0,i⟩:S40).f0).toNat=(r.f1+1-r.f0).toNat+((i-r.f1-1).toNat+1):=by simp;omega
 rw[e,inn_add p gap _ _ _ _ _ _ _ (a5 c)];have e2:r.f0+((r.f1+1-r.f0).toNat:Int)=r.f1+1:=by omega
 rw[show (⟨r.f0,i⟩:S40).f0=r.f0 from rfl,e2,inn_add p gap _ _ _ _ _ _ _ (inn_gap p gap (i-r.f1-1).toNat (r.f1+1) 0 (c+q) (fun j hj hj2=>h2 j (by omega) (by omega)) (by omega))];have e3:r.f1+1+((i-r.f1-1).toNat:Int)=i:=by omega
 rw[e3];simp only[inn,h,if_true];rw[if_neg (by omega)]
 congr 2;omega
def Lay (p:Int→Bool) (gap:Int):List S40→Int→Prop
 | [],q=>q=0
 |r::l,q=>∃ a b,Good p gap r a∧Lay p gap l b∧q=a+b∧(∀ s t,l=s::t→s.f0-r.f1-1>gap)
theorem Lay.snoc {p:Int→Bool} {gap:Int}:∀ {l:List S40} {q:Int} {r:S40} {a:Int},Lay p gap l q→Good p gap r a→(∀ b s,l=b++ [s]→r.f0-s.f1-1>gap)→Lay p gap (l++ [r]) (q+a)
  | [],q,r,a,h,hr,_=>by
    simp only[Lay]at h;subst h;exact⟨a,0,hr,rfl,by omega,fun s t e=>by cases e⟩
  | x::l,q,r,a,h,hr,hs=>by
    obtain⟨u,v,h1,h2,h3,h4⟩:=h;refine⟨u,v+a,h1,Lay.snoc h2 hr (fun b s e=>hs (x::b) s (by rw[e];rfl)),by omega,fun s t e=>?_⟩
    cases l with
    |nil=>have e:=(List.cons.inj e).1;subst e;exact hs [] x rfl
    |cons y l'=>have e:=(List.cons.inj e).1;subst e;exact h4 y l' rfl
theorem Lay.snocInv {p:Int→Bool} {gap:Int}:∀ {l:List S40} {q:Int} {r:S40},Lay p gap (l++ [r]) q→∃ u v,Lay p gap l u∧Good p gap r v∧q=u+v∧(∀ b s,l=b++ [s]→r.f0-s.f1-1>gap)
  | [],q,r,h=>by
    obtain⟨a,b,h1,h2,h3,_⟩:=h;simp only[Lay]at h2;subst h2;exact⟨0,a,rfl,h1,by omega,fun b s e=>by cases b<;>cases e⟩
  | x ::l,q,r,h=>by
    obtain⟨a,b,h1,h2,h3,h4⟩:=h;obtain⟨u,v,k1,k2,k3,k4⟩:=Lay.snocInv h2;refine⟨a+u,v,⟨a,u,h1,k1,rfl,fun s t e=>?_⟩,k2,by omega,fun c s e=>?_⟩
    · subst e;exact h4 s (t++ [r]) rfl
    · cases c with
      |nil=>simp only[List.nil_append,List.cons.injEq]at e;obtain⟨rfl,rfl⟩:=e;exact h4 r [] rfl
      |cons y c=>simp only[List.cons_append,List.cons.injEq]at e;exact k4 c s e.2
theorem G_lay (p:Int→Bool) (gap:Int) (hg:0≤gap):∀ n,Lay p gap (fl (G p gap n)) (cnt p n)
 |0=>rfl
 | n +1=>by
  have ih:=G_lay p gap hg n;unfold G cnt
  by_cases c:p (n:Int)=true
  ·rw [if_pos c,if_pos c]
   cases e:G p gap n with
   |none=>
    rw[e]at ih;exact Lay.snoc (l:=[]) ih (Good.one p gap hg (by omega) c) (fun b s e=>by cases b<;>cases e)
   | some s=>
    obtain⟨b,r⟩:=s;obtain⟨h1,h2,h3⟩:=G_last p gap n b r e;rw[e]at ih;simp only[stepG]
    by_cases d:(n:Int)-r.f1-1≤gap
    ·rw [if_pos d];obtain⟨u,v,k1,k2,k3,k4⟩:=Lay.snocInv ih;have:=Lay.snoc k1 (Good.more p gap hg k2 h1 c h3 d) k4;rw[k3,show u+v+1=u+(v+1) by omega];exact this
    ·rw [if_neg d];refine Lay.snoc (l:=b++ [r]) ih (Good.one p gap hg (by omega) c) (fun b' s' e'=>?_);have:=List.append_inj_right' e' rfl
     injection this with this
     subst this;simp only;omega
  ·rw [if_neg c,if_neg c,Int.add_zero];exact ih
theorem G_in (p q:Int→Bool) (hpq:∀ i,p i=true→q i=true) (gap:Int) (hg:0≤gap):∀ n,(∀ r∈fl (G p gap n),∃ s∈fl (G q gap n),s.f0≤r.f0∧r.f1≤s.f1)∧
    (∀ b r,G p gap n=some (b,r)→∃ c s,G q gap n=some (c,s)∧r.f1≤s.f1∧(s.f0≤r.f0∨(n:Int)-r.f1-1>gap))
  |0=>⟨fun r h=>by simp[G,fl]at h,fun b r h=>by simp[G]at h⟩
  | n + 1 => by
    obtain⟨i1,i2⟩:=G_in p q hpq gap hg n
    by_cases c:p (n:Int)=true
    · have c2:=hpq _ c;have e1:G p gap (n+1)=stepG gap (G p gap n) n:=by rw[G,if_pos c]
      have e2:G q gap (n+1)=stepG gap (G q gap n) n:=by rw[G,if_pos c2]
      rw [e1,e2];have keep:∀ r∈fl (G q gap n),∃ s∈fl (stepG gap (G q gap n) n),s.f0≤r.f0∧r.f1≤s.f1:=by
        intro r hr
        cases eq:G q gap n with
        |none=>rw[eq]at hr;simp[fl]at hr
        | some w=>
          obtain⟨d,t⟩:=w;rw[eq]at hr;obtain⟨l1,l2,l3⟩:=G_last q gap n d t eq;simp only[fl,List.mem_append,List.mem_singleton]at hr;simp only[stepG]
          split
          · rcases hr with hr|rfl
            · exact⟨r,by simp[fl,hr],Int.le_refl _,Int.le_refl _⟩
            · exact⟨⟨r.f0,n⟩,by simp[fl],Int.le_refl _,by simp;omega⟩
          · rcases hr with hr|rfl
            · exact⟨r,by simp[fl,hr],Int.le_refl _,Int.le_refl _⟩
            · exact⟨r,by simp[fl],Int.le_refl _,Int.le_refl _⟩
      have old:∀ r∈fl (G p gap n),∃ s∈fl (stepG gap (G q gap n) n),s.f0≤r.f0∧r.f1≤s.f1:=by
        intro r hr;obtain⟨s,hs,h1,h2⟩:=i1 r hr;obtain⟨t,ht,h3,h4⟩:=keep s hs;exact⟨t,ht,by omega,by omega⟩
      have last:∃ d t,stepG gap (G q gap n) n=some (d,t)∧t.f1=n∧t.f0≤n:=by
        cases eq:G q gap n with
        |none=>exact⟨[],⟨n,n⟩,rfl,rfl,Int.le_refl _⟩
        | some w=>
          obtain⟨d,t⟩:=w;obtain⟨l1,l2,l3⟩:=G_last q gap n d t eq;have hl:=G_lay q gap hg n;rw[eq]at hl;obtain⟨_,_,_,k2,_,_⟩:=Lay.snocInv hl;simp only[stepG]
          split
          · exact⟨_,_,rfl,rfl,by have:=k2.2.1;simp;omega⟩
          · exact⟨_,_,rfl,rfl,Int.le_refl _⟩
      cases ep:G p gap n with
      | none=>
        obtain⟨d,t,l1,l2,l3⟩:=last;refine⟨fun r hr=>?_,fun b r h=>?_⟩
        · simp[stepG,fl]at hr;subst hr
          rw[l1];exact⟨t,by simp[fl],l3,by simp;omega⟩
        · simp only[stepG,Option.some.injEq,Prod.mk.injEq]at h;obtain⟨_,rfl⟩:=h;exact⟨d,t,l1,by simp;omega,.inl l3⟩
      | some w=>
        obtain⟨b,r⟩:=w;obtain⟨m1,m2,m3⟩:=G_last p gap n b r ep;obtain⟨d,t,l1,l2,l3⟩:=last;rw[ep]at old;have es:stepG gap (some (b,r)) (n:Int)=if(n:Int)-r.f1-1≤gap then some (b,⟨r.f0,n⟩)else some (b++ [r],⟨n,n⟩):=rfl;rw[es]
        by_cases f:(n:Int)-r.f1-1≤gap
        · rw[if_pos f];obtain⟨c',s,k1,k2,k3⟩:=i2 b r ep;have k4:s.f0≤r.f0:=by rcases k3 with k|k<;>omega
          have e3:stepG gap (G q gap n) n=some (c',⟨s.f0,n⟩):=by rw[k1];simp only[stepG];rw[if_pos (by omega)]
          rw[e3]at old ⊢;refine⟨fun r' hr=>?_,fun b' r' h=>?_⟩
          · simp only[fl,List.mem_append,List.mem_singleton]at hr
            rcases hr with hr|rfl
            · exact old r' (by simp[fl,hr])
            · exact⟨⟨s.f0,n⟩,by simp[fl],k4,Int.le_refl _⟩
          · simp only[Option.some.injEq,Prod.mk.injEq]at h;obtain⟨_,rfl⟩:=h;exact⟨c',⟨s.f0,n⟩,rfl,Int.le_refl _,.inl k4⟩
        · rw[if_neg f];refine⟨fun r' hr=>?_,fun b' r' h=>?_⟩
          · simp only[fl,List.mem_append,List.mem_singleton]at hr
            rcases hr with hr|rfl
            · exact old r' (by simp only[fl,List.mem_append,List.mem_singleton];exact hr)
            · rw[l1];exact⟨t,by simp[fl],l3,by simp;omega⟩
          · simp only[Option.some.injEq,Prod.mk.injEq]at h;obtain⟨_,rfl⟩:=h;exact⟨d,t,l1,by simp;omega,.inl l3⟩
    · have e1 :G p gap (n+1)=G p gap n:=by rw[G,if_neg c]
      rw[e1]
      by_cases c2:q (n:Int)=true
      · have e2:G q gap (n+1)=stepG gap (G q gap n) n:=by rw[G,if_pos c2]
        rw [e2];have keep:∀ r∈fl (G q gap n),∃ s∈fl (stepG gap (G q gap n) n),s.f0≤r.f0∧r.f1≤s.f1:=by
          intro r hr
          cases eq:G q gap n with
          |none=>rw[eq]at hr;simp[fl]at hr
          | some w=>
            obtain⟨d,t⟩:=w;rw[eq]at hr;obtain⟨l1,l2,l3⟩:=G_last q gap n d t eq;simp only[fl,List.mem_append,List.mem_singleton]at hr;simp only[stepG]
            split
            · rcases hr with hr|rfl
              · exact⟨r,by simp[fl,hr],Int.le_refl _,Int.le_refl _⟩
              · exact⟨⟨r.f0,n⟩,by simp[fl],Int.le_refl _,by simp;omega⟩
            · rcases hr with hr|rfl
              · exact⟨r,by simp[fl,hr],Int.le_refl _,Int.le_refl _⟩
              · exact⟨r,by simp[fl],Int.le_refl _,Int.le_refl _⟩
        refine⟨fun r hr=>?_,fun b r h=>?_⟩
        · obtain⟨s,hs,h1,h2⟩:=i1 r hr;obtain⟨t,ht,h3,h4⟩:=keep s hs;exact⟨t,ht,by omega,by omega⟩
        · obtain⟨c',s,k1,k2,k3⟩:=i2 b r h;obtain⟨m1,m2,m3⟩:=G_last p gap n b r h;rw[k1];simp only[stepG]
          by_cases f:(n:Int)-s.f1-1≤gap
          · rw[if_pos f];exact⟨c',⟨s.f0,n⟩,rfl,by simp;omega,by rcases k3 with k|k;exact .inl k;exact .inr (by omega)⟩
          · rw[if_neg f];exact⟨c'++ [s],⟨n,n⟩,rfl,by simp;omega,.inr (by omega)⟩
      · have e2:G q gap (n+1)=G q gap n:=by rw[G,if_neg c2]
        rw[e2];refine⟨i1,fun b r h=>?_⟩;obtain⟨c',s,k1,k2,k3⟩:=i2 b r h;exact⟨c',s,k1,k2,by rcases k3 with k|k;exact .inl k;exact .inr (by omega)⟩
theorem Ev.shift {α:Type} {f:Nat→Option α} {r:α} (h:Ev f r) (d:Nat):Ev (fun k=>f (k+d)) r:=by
 obtain⟨k,hk⟩:=h;exact⟨k,fun j hj=>hk (j+d) (by omega)⟩
def ptE (n d:Int):Int:=if 0<d∧Int.gcd n d=1 then(if(0≤n∧n≤d)∧d≤1000000000 then 0 else 2)else 3
theorem divisor_pos {x y:Int} (hx:x.natAbs≤9223372036854775808) (hy:0<y∧y≤9223372036854775807):Ev (fun k=>L_divisor.f k x y) (Int.gcd x y:Int):=by
 have ht:=tmod_in (x:=x) (y:=y) (by omega);have h:Ev (fun k=>L_divisor.l0 k x y) (Int.gcd x y:Int):=by
  refine Ev.succ (f:=fun k=>L_divisor.l0 k x y) ?_;simp only[L_divisor.l0,show ¬ y=0 by omega,if_false];rw[← gcd_step x y];exact divisor_l0 _ y (x.tmod y) (Nat.le_refl _) (by omega) (by omega)
 exact h
theorem Gcd_pos {x y:Int} (hx:x.natAbs≤9223372036854775808) (hy:0<y∧y≤9223372036854775807):Ev (fun k=>Bs_Gcd.f k x y) (Int.gcd x y:Int):=by
 have ht:=tmod_in (x:=x) (y:=y) (by omega);have h:Ev (fun k=>Bs_Gcd.l0 k x y) (Int.gcd x y:Int):=by
  refine Ev.succ (f:=fun k=>Bs_Gcd.l0 k x y) ?_;simp only[Bs_Gcd.l0,show ¬ y=0 by omega,if_false];rw[← gcd_step x y];exact Gcd_l0 _ y (x.tmod y) (Nat.le_refl _) (by omega) (by omega)
 exact h
theorem partErr_j0 (b:Bool) (n d:Int):Ev (fun k=>L_partErr.j0 k b n d) (if b=true then 3 else(if(0≤n∧n≤d)∧d≤1000000000 then 0 else 2)):=by
 refine Ev.succ (f:=fun k=>L_partErr.j0 k b n d) ?_;simp only[L_partErr.j0,within_eq,unless_eq,Option.bind_some,decide_eq_true_eq]
 by_cases hb:b=true
 ·simp only[hb,if_true];exact Ev.some
 ·simp only[hb,if_false]
  by_cases h:0≤n∧n≤d
  ·simp only[h,and_self,true_and,if_true];exact Ev.some
  ·simp only[h,false_and,if_false,Bool.false_eq_true];exact Ev.some
theorem partErr_ev {n d:Int} (hn: -9223372036854775808≤n∧n≤9223372036854775807) (hd: -9223372036854775808≤d∧d≤9223372036854775807):Ev (fun k=>L_partErr.f k n d) (ptE n d):=by
 unfold L_partErr.f ptE
 by_cases h0:d≤0
 ·simp only[h0,if_true,show ¬ 0<d by omega,false_and,if_false];exact partErr_j0 true n d
 ·simp only[h0,if_false,show 0<d by omega,true_and];refine Ev.bind (divisor_pos (by omega) (by omega)) ?_
  by_cases h1:Int.gcd n d=1
  ·simp only[h1,if_true];exact partErr_j0 _ n d
  ·simp only[h1,if_false];have:((Int.gcd n d:Int) != 1)=true:=by simp;omega
   rw[this];exact partErr_j0 true n d
theorem PartErr_ev {n d:Int} (hn: -9223372036854775808≤n∧n≤9223372036854775807) (hd: -9223372036854775808≤d∧d≤9223372036854775807):Ev (fun k=>Rf_PartErr.f k n d) (ptE n d):=by
 unfold Rf_PartErr.f Bs_IsLowest.f ptE
 by_cases h0:0<d
 ·simp only[gt_iff_lt,h0,if_true,true_and];refine Ev.bind (a:=decide (Int.gcd n d=1)) (Ev.bind (Gcd_pos (by omega) (by omega)) (by rw[show ((Int.gcd n d:Int)==1)=decide (Int.gcd n d=1) by rw[Bool.eq_iff_iff];simp;omega];exact Ev.some)) ?_;simp only[Within_eq,Option.bind_some,decide_eq_true_eq]
  by_cases h1:Int.gcd n d=1
  ·simp only[h1,if_true]
   by_cases h2:0≤n∧n≤d
   ·simp only[h2,and_self,true_and,if_true]
    by_cases h3:d≤1000000000
    ·rw [if_neg (by omega),if_pos h3];exact Ev.some
    ·rw [if_pos (by omega),if_neg h3];exact Ev.some
   ·simp only[h2,false_and,if_false];exact Ev.some
  ·simp only[h1,if_false];exact Ev.some
 ·simp only[gt_iff_lt,h0,if_false,false_and,Option.bind_some,Bool.false_eq_true];exact Ev.some
theorem ptE_ok {n d:Int} (h:ptE n d=0):0≤n∧n≤d∧0<d∧d≤1000000000∧Int.gcd n d=1:=by
 unfold ptE at h
 split at h
 ·split at h
  ·omega
  ·omega
 ·omega
theorem fnz2 (a b:Int):fnz [a,b]=if a=0 then b else a:=by
 unfold fnz fnz fnz;split
 ·split<;>simp_all
 ·rfl
theorem fnz3 (a b c:Int):fnz [a,b,c]=if a=0 then(if b=0 then c else b)else a:=by
 rw[fnz,fnz2]
theorem fnz4 (a b c d:Int):fnz [a,b,c,d]=if a=0 then(if b=0 then(if c=0 then d else c)else b)else a:=by
 rw[fnz,fnz3]
theorem ProfileErr_ev (l:List Int) (hl:l.length<4611686018427387904):Ev (fun k=>Rf_ProfileErr.f k l) (pE l).2:=by
 unfold Rf_ProfileErr.f;exact Ev.bind (RefCheckProfile_ev l hl) Ev.some
theorem isGates_eq (a:Int):L_isGates.f a=some (decide (0≤a∧a≤24)):=by
 unfold L_isGates.f;rw[within_eq];rfl

theorem sum_any (l:List Int) (hl:l.length<4611686018427387904):∃ v,Ev (fun k=>L_profile_sum.f k l) v:=by
 have:∀ (n i:Nat) (s:Int),i+n=l.length→∃ v,Ev (fun k=>L_profile_sum.l0 k s l (l.length:Int) (i:Int)) v:=by
  intro n
  induction n with
  |zero=>
   intro i s h;refine⟨s,Ev.succ (f:=fun k=>L_profile_sum.l0 k s l (l.length:Int) (i:Int)) ?_⟩;simp only[L_profile_sum.l0,show ¬ (i:Int)<(l.length:Int) by omega,if_false];exact Ev.some
  |succ n ih=>
   intro i s h;obtain⟨v,hv⟩:=ih (i+1) (wrap64 (s+l.getD i 0)) (by omega);refine⟨v,Ev.succ (f:=fun k=>L_profile_sum.l0 k s l (l.length:Int) (i:Int)) ?_⟩;simp only[L_profile_sum.l0,show(i:Int)<(l.length:Int) by omega,show(0:Int)≤(i:Int) by omega,if_true,up (show i<4611686018427387904 by omega),rd_nat];exact hv
 exact this l.length 0 0 (by omega)
def vis (l:List Int) (c n d:Int):Nat→Nat→Int
 |0,i=>(i:Int)
 |m+1,i=>if(c-sm (l.take (i+1)))*d≤n*c then(i:Int)else vis l c n d m (i+1)
theorem vis_le (l:List Int) (c n d:Int):∀ m i:Nat,(i:Int)≤vis l c n d m i∧vis l c n d m i≤i+m
 |0,i=>by simp[vis]
 |m+1,i=>by
  unfold vis
  split
  ·omega
  ·have:=vis_le l c n d m (i+1);omega
theorem vis_mono (l:List Int) (c n d:Int) (h:∀ x:Int,x≤0→x*d≤n*c):∀ m i:Nat,vis l c n d m i≤vis l c 0 1 m i
 |0,i=>Int.le_refl _
 | m+1,i=>by
  unfold vis
  by_cases e:(c-sm (l.take (i+1)))*d≤n*c
  ·rw [if_pos e]
   split
   ·exact Int.le_refl _
   ·have:=vis_le l c 0 1 m (i+1);omega
  ·rw [if_neg e,if_neg (fun e2=>e (h _ (by omega)))];exact vis_mono l c n d h m (i+1)
theorem prod_in {x d:Int} (hx:0≤x∧x≤1000000) (hd:0≤d∧d≤1000000000):0≤x*d∧x*d≤1000000000000000:=by
 refine⟨Int.mul_nonneg hx.1 hd.1,?_⟩;have:=Int.mul_le_mul hx.2 hd.2 hd.1 (by omega)
 omega
theorem sm_le {l:List Int} (hb:∀ x∈l,0≤x∧x≤10000) (i:Nat):sm (l.take i)≤sm l:=by
 have h:sm l=sm (l.take i)+sm (l.drop i):=by rw[← sm_append,List.take_append_drop]
 have:=(sm_nonneg (l:=l.drop i) (fun y hy=>hb y (List.mem_of_mem_drop hy))).1
 omega
theorem Vis_l0 (l:List Int) (c n d:Int) (hb:∀ x∈l,0≤x∧x≤10000) (hl:l.length≤24) (hc:1≤c∧c≤1000000) (hs:sm l≤c) (hn:0≤n∧n≤1000000000) (hd:0≤d∧d≤1000000000):∀ (m i:Nat),i+m=l.length→Ev (fun k=>L_VisibilityOf.l0 k c l (c-sm (l.take i)) l (l.length:Int) (i:Int) n d) (vis l c n d m i,0)
 |0,i,h=>by
  refine Ev.succ (f:=fun k=>L_VisibilityOf.l0 k c l (c-sm (l.take i)) l (l.length:Int) (i:Int) n d) ?_;simp only[L_VisibilityOf.l0,show ¬ (i:Int)<(l.length:Int) by omega,if_false];rw[show i=l.length by omega];exact Ev.some
 |m+1,i,h=>by
  refine Ev.succ (f:=fun k=>L_VisibilityOf.l0 k c l (c-sm (l.take i)) l (l.length:Int) (i:Int) n d) ?_;have hi:i<l.length:=by omega
  have h1:=sm_take hb i hl;have h2:=sm_take hb (i+1) hl;have h3:=sm_le hb (i+1);have e:c-sm (l.take i)-l.getD i 0=c-sm (l.take (i+1)):=by rw[take_succ_sm hi];omega
  simp only[L_VisibilityOf.l0,show(i:Int)<(l.length:Int) by omega,show(0:Int)≤(i:Int) by omega,if_true,up (show i<4611686018427387904 by omega),rd_nat];rw[w64 (n:=c-sm (l.take i)-l.getD i 0) (by omega),e];have p1:=prod_in (x:=c-sm (l.take (i+1))) (d:=d) (by omega) hd;have p2:=prod_in (x:=c) (d:=n) (by omega) hn;rw[Int.mul_comm]at p2;rw[w64 (n:=(c-sm (l.take (i+1)))*d) (by omega),w64 (n:=n*c) (by omega)];unfold vis
  by_cases q:(c-sm (l.take (i+1)))*d≤n*c
  ·simp only[q,if_true];exact Ev.some
  ·simp only[q,if_false];exact Vis_l0 l c n d hb hl hc hs hn hd m (i+1) (by omega)
def vE (l:List Int) (c n d:Int):Int:=if(pE l).2=0 then(if cE c=0 then(if ptE n d=0 then(if sm l≤c then 0 else 20)else ptE n d)else cE c)else(pE l).2
theorem cE_ok {c:Int} (h:cE c=0):1≤c∧c≤1000000:=by unfold cE at h;split at h<;>omega
theorem VisibilityOf_ev (l:List Int) (c n d:Int) (hl:l.length<4611686018427387904) (hn: -9223372036854775808≤n∧n≤9223372036854775807) (hd: -9223372036854775808≤d∧d≤9223372036854775807):
  Ev (fun k=>L_VisibilityOf.f k l c n d) (if vE l c n d=0 then(vis l c n d l.length 0,0)else(0,vE l c n d)):=by
 unfold L_VisibilityOf.f;refine Ev.bind (open_ev l hl) ?_;simp only[constantErr_eq,Option.bind_some];refine Ev.bind (partErr_ev hn hd) ?_;obtain⟨v,hv⟩:=sum_any l hl;refine Ev.bind hv ?_;simp only[unless_eq,Option.bind_some,decide_eq_true_eq];refine Ev.bind (first_ev _ (by simp)) ?_;rw[fnz4]
 by_cases h1:(pE l).2=0
 ·obtain ⟨h3,h4,h5⟩:=pE_ok h1;obtain rfl:=Ev.iff hv (sum_ev l h5 h4);have e:(if(pE l).2=0 then(if cE c=0 then(if ptE n d=0 then(if sm l≤c then 0 else 20)else ptE n d)else cE c)else(pE l).2)=vE l c n d:=rfl;rw[e]
  by_cases h:vE l c n d=0
  ·simp only[h,if_true];unfold vE at h;rw[if_pos h1]at h
   split at h
   ·split at h
    ·split at h
     ·rename_i q1 q2 q3
      have:=ptE_ok q2;have h9:=Vis_l0 l c n d h5 h4 (cE_ok q1) q3 (by omega) (by omega) l.length 0 (by omega);rw[show c-sm (l.take 0)=c by simp[sm]]at h9;exact h9
     ·exact absurd h (by simp)
    ·rename_i q;exact absurd h q
   ·rename_i q;exact absurd h q
  ·simp only[h,if_false];exact Ev.some
 ·have e:vE l c n d=(pE l).2:=by unfold vE;rw[if_neg h1]
  rw[e];simp only[h1,if_false];exact Ev.some

theorem rd_snoc (b:List S40) (r:S40):rd_T40 (b++ [r]) (b.length:Int)=r:=by
 unfold rd_T40;simp
theorem set_snoc (b:List S40) (r x:S40):(b++ [r]).set b.length x=b++ [x]:=by simp
theorem len_snoc (b:List S40) (r:S40) (h:b.length<1000):wrap64 (((b++ [r]).length:Int)-1)=(b.length:Int):=by
 rw[List.length_append,List.length_singleton];unfold wrap64;omega
theorem fl_len (p:Int→Bool) (gap:Int):∀ n,(fl (G p gap n)).length≤n
  |0=>by simp[G,fl]
  | n + 1=>by
    have ih:=fl_len p gap n;unfold G
    split
    · cases e:G p gap n with
      |none=>simp[stepG,fl]
      | some s=>
        obtain⟨b,r⟩:=s;rw[e]at ih;simp only[fl,List.length_append,List.length_singleton]at ih;simp only[stepG]
        split<;>simp only[fl,List.length_append,List.length_singleton]<;>omega
    · omega
theorem G_in_range (p:Int→Bool) (gap:Int):∀ n,∀ r∈fl (G p gap n),0≤r.f0∧r.f0≤r.f1∧r.f1<n
 |0=>fun r h=>by simp[G,fl]at h
 | n +1=>fun r h=>by
  have ih:=G_in_range p gap n;unfold G at h
  split at h
  ·cases e:G p gap n with
   |none=>
    rw[e]at h;simp only[stepG,fl,List.nil_append,List.mem_singleton]at h;subst h;exact⟨by simp,by simp,by simp;omega⟩
   | some s=>
    obtain⟨b,q⟩:=s;have hl:=G_last p gap n b q e;rw[e]at h ih;have hq:=ih q (by simp[fl]);simp only[stepG]at h
    split at h<;>simp only[fl,List.mem_append,List.mem_singleton]at h
    ·rcases h with h|rfl
     ·have:=ih r (by simp[fl,h]);omega
     ·exact ⟨hq.1,by simp;omega,by simp;omega⟩
    ·rcases h with h|rfl
     ·have:=ih r (by simp only[fl,List.mem_append,List.mem_singleton];exact h);omega
     ·exact ⟨by simp,by simp,by simp;omega⟩
  ·have:=ih r h;omega
theorem fl_some (b:List S40) (r:S40):fl (some (b,r))=b++ [r]:=rfl
theorem runs_l0 (P:Int→Bool) (pk:Nat→Int→Option Bool) (n:Nat) (hn:n≤30) (hp:∀ i:Nat,i<n→Ev (fun k=>pk k (i:Int)) (P (i:Int))):∀ (m i:Nat),i+m=n→∀ d,Ev (fun k=>L_runs.l0 (pk (k+d)) k (fl (G P 0 i)) (n:Int) (i:Int)) (fl (G P 0 n))
 |0,i,h,d=>by
  refine Ev.succ (f:=fun k=>L_runs.l0 (pk (k+d)) k (fl (G P 0 i)) (n:Int) (i:Int)) ?_;simp only[L_runs.l0,show ¬ (i:Int)<(n:Int) by omega,if_false];rw[show i=n by omega];exact Ev.some
 | m+1,i,h,d=>by
  refine Ev.succ (f:=fun k=>L_runs.l0 (pk (k+d)) k (fl (G P 0 i)) (n:Int) (i:Int)) ?_;obtain⟨x,hx⟩:∃ x,x=fl (G P 0 i):=⟨_,rfl⟩;rw[← hx];have hi:i<n:=by omega
  have ih:=runs_l0 P pk n hn hp m (i+1) (by omega) (d+1);have hlen:=fl_len P 0 i;simp only[L_runs.l0,show(i:Int)<(n:Int) by omega,if_true,up (show i<4611686018427387904 by omega)];refine Ev.bind (f:=fun k=>pk (k+1+d) (i:Int)) (by have:=(hp i hi).shift (1+d);simpa only[Nat.add_assoc]using this) ?_;have ekd:∀ k:Nat,k+1+d=k+(d+1):=fun k=>by omega
  simp only[ekd]
  by_cases c:P (i:Int)=true
  ·have eG:G P 0 (i+1)=stepG 0 (G P 0 i) (i:Int):=by rw[G,if_pos c]
   rw[eG]at ih;simp only[c,if_true]
   cases e:G P 0 i with
   |none=>
    rw[e]at ih hx;obtain rfl:x=[]:=hx;simp only[List.length_nil,show ¬ (wrap64 (((0:Nat):Int)-1)≥0) by unfold wrap64;omega,if_false,show(0:Nat)<8796093022208 by omega,if_true];exact ih
   |some s=>
    obtain⟨b,r⟩:=s;have hl:=G_last P 0 i b r e;have hr:=G_in_range P 0 i r (by rw[e];simp[fl]);rw[e]at ih hlen hx;obtain rfl:x=b++ [r]:=hx;simp only[fl_some,List.length_append,List.length_singleton]at hlen;simp only[len_snoc b r (by omega)];simp only[show (b.length:Int)≥0 by omega,show(0:Int)≤(b.length:Int) by omega,if_true];have h1:(b.length:Int)<((b++ [r]).length:Int):=by simp only[List.length_append,List.length_singleton];omega
    simp only[h1,if_true,rd_snoc,Int.toNat_natCast,set_snoc];rw[w64 (n:=(i:Int)-1) (by omega)];have h2:(b++ [r]).length<8796093022208:=by simp only[List.length_append,List.length_singleton];omega
    by_cases q:r.f1=(i:Int)-1
    ·simp only[q,if_true];simp only[stepG,show(i:Int)-r.f1-1≤0 by omega,if_true,fl_some]at ih;exact ih
    ·simp only[q,if_false,h2,if_true];simp only[stepG,show ¬ (i:Int)-r.f1-1≤0 by omega,if_false,fl_some]at ih;exact ih
  ·have eG:G P 0 (i+1)=G P 0 i:=by rw[G,if_neg c]
   rw[eG]at ih;simp only[c,if_false,Bool.false_eq_true];rw[hx];exact ih
theorem runs_ev (P:Int→Bool) (pk:Nat→Int→Option Bool) (n:Nat) (hn:n≤30) (hp:∀ i:Nat,i<n→Ev (fun k=>pk k (i:Int)) (P (i:Int))):Ev (fun k=>L_runs.f (pk k) k (n:Int)) (fl (G P 0 n)):=runs_l0 P pk n hn hp n 0 (by omega) 0

def Sm (r:S40):Prop:=0≤r.f0∧r.f0≤30∧0≤r.f1∧r.f1≤30
def keep (len:Int) (r:S40):Bool:=decide (len≤r.f1-r.f0+1)
theorem del_eq {r:S40} (h:Sm r) (len:Int):L_LayersIn_2.f r.f0 r.f1 len=some (!keep len r):=by
 unfold L_LayersIn_2.f keep;obtain⟨h1,h2,h3,h4⟩:=h;rw[w64 (n:=r.f1-r.f0) (by omega),w64 (n:=r.f1-r.f0+1) (by omega)]
 congr 1
 by_cases c:len≤r.f1-r.f0+1
 ·simp only[c,decide_true,Bool.not_true,decide_eq_false_iff_not];omega
 ·simp only[c,decide_false,Bool.not_false,decide_eq_true_eq];omega
theorem rd_drop {l:List S40} {i:Nat} (h:i<l.length):l.drop i=rd_T40 l (i:Int)::l.drop (i+1):=by
 unfold rd_T40;exact drop_getD z40 h
theorem rd_mem {l:List S40} {i:Nat} (h:i<l.length):rd_T40 l (i:Int)∈l:=by
 have:rd_T40 l (i:Int)∈l.drop i:=by rw[rd_drop h];exact List.mem_cons_self
 exact List.mem_of_mem_drop this
def fi (len:Int):List S40→Nat→Int
 | [],_=> -1
 |x::r,i=>if keep len x=true then fi len r (i+1)else(i:Int)
theorem IndexFunc_l0 (l:List S40) (len:Int) (hb:∀ r∈l,Sm r) (hl:l.length<1000):∀ (n i:Nat),i+n=l.length→Ev (fun k=>api_Range_81.l0 k l len (l.length:Int) (i:Int)) (fi len (l.drop i) i)
 |0,i,h=>by
  refine Ev.succ (f:=fun k=>api_Range_81.l0 k l len (l.length:Int) (i:Int)) ?_;simp only[api_Range_81.l0,show ¬ (i:Int)<(l.length:Int) by omega,if_false];rw[show l.drop i=[]from List.drop_eq_nil_of_le (by omega)];exact Ev.some
 |n+1,i,h=>by
  refine Ev.succ (f:=fun k=>api_Range_81.l0 k l len (l.length:Int) (i:Int)) ?_;have hi:i<l.length:=by omega
  rw[rd_drop hi];simp only[api_Range_81.l0,show(i:Int)<(l.length:Int) by omega,show(0:Int)≤(i:Int) by omega,if_true,up (show i<4611686018427387904 by omega),del_eq (hb _ (rd_mem hi)),Option.bind_some,fi]
  by_cases c:keep len (rd_T40 l (i:Int))=true
  ·simp only[c,Bool.not_true,Bool.false_eq_true,if_false,if_true];exact IndexFunc_l0 l len hb hl n (i+1) (by omega)
  ·simp only[c,if_false,show(!keep len (rd_T40 l (i:Int)))=true by simpa using c,if_true];exact Ev.some
theorem fi_spec (len:Int):∀ (l:List S40) (i:Nat),(fi len l i= -1∧l.filter (keep len)=l)∨∃ j:Nat,j<l.length∧fi len l i=((i+j:Nat):Int)∧l.take j++(l.drop (j+1)).filter (keep len)=l.filter (keep len)
 | [],i=> .inl ⟨rfl,rfl⟩
 | x::r,i=>by
  unfold fi
  by_cases c:keep len x=true
  ·rw [if_pos c]
   rcases fi_spec len r (i+1)with ⟨h1,h2⟩|⟨j,h1,h2,h3⟩
   ·exact .inl ⟨h1,by rw[List.filter_cons_of_pos c,h2]⟩
   ·refine .inr ⟨j+1,by simp;omega,by rw[h2];congr 1;omega,?_⟩;rw[List.filter_cons_of_pos c, ←h3];rfl
  ·rw [if_neg c];exact .inr ⟨0,by simp,by simp,by rw[List.filter_cons_of_neg c];rfl⟩
theorem Delete_l0 (len:Int):∀ (n:Nat) (x:List S40) (a i:Nat),(∀ r∈x,Sm r)→x.length<1000→a≤i→i+n=x.length→Ev (fun k=>api_Range_52.l0 k x len (a:Int) (i:Int)) (x.take a++(x.drop i).filter (keep len))
 |0,x,a,i,hb,hl,ha,h=>by
  refine Ev.succ (f:=fun k=>api_Range_52.l0 k x len (a:Int) (i:Int)) ?_;simp only[api_Range_52.l0,show ¬ (i:Int)<(x.length:Int) by omega,show(0:Int)≤(a:Int) by omega,show(a:Int)≤(x.length:Int) by omega,if_false,if_true,Int.toNat_natCast];rw[show x.drop i=[]from List.drop_eq_nil_of_le (by omega)];simp only[List.filter_nil,List.append_nil];exact Ev.some
 | n+1,x,a,i,hb,hl,ha,h=>by
  refine Ev.succ (f:=fun k=>api_Range_52.l0 k x len (a:Int) (i:Int)) ?_;have hi:i<x.length:=by omega
  have hm:=rd_mem hi;rw[rd_drop hi];simp only[api_Range_52.l0,show(i:Int)<(x.length:Int) by omega,show(0:Int)≤(i:Int) by omega,show(0:Int)≤(a:Int) by omega,show(a:Int)<(x.length:Int) by omega,if_true,up (show i<4611686018427387904 by omega),up (show a<4611686018427387904 by omega),del_eq (hb _ hm),Option.bind_some,Int.toNat_natCast]
  by_cases c:keep len (rd_T40 x (i:Int))=true
  ·simp only[c,Bool.not_true,Bool.false_eq_true,if_false];rw[List.filter_cons_of_pos c];have hs:(⟨(rd_T40 x (i:Int)).f0,(rd_T40 x (i:Int)).f1⟩:S40)=rd_T40 x (i:Int):=rfl;have ih:=Delete_l0 len n (x.set a (rd_T40 x (i:Int))) (a+1) (i+1) (fun r hr=>by
    rcases List.mem_or_eq_of_mem_set hr with hr|rfl
    ·exact hb r hr
    ·exact hb _ hm) (by rw[List.length_set];exact hl) (by omega) (by rw[List.length_set];omega)
   rw[List.drop_set_of_lt (show a<i+1 by omega),List.take_succ_eq_append_getElem (show a<(x.set a (rd_T40 x (i:Int))).length by rw[List.length_set];omega),List.getElem_set_self,List.take_set_of_le (Nat.le_refl _)]at ih;rw[List.append_assoc]at ih;exact ih
  ·simp only[show (!keep len (rd_T40 x (i:Int)))=true by simpa using c,if_true];rw[List.filter_cons_of_neg c];exact Delete_l0 len n x a (i+1) hb hl (by omega) (by omega)
theorem Delete_ev (x:List S40) (len:Int) (hb:∀ r∈x,Sm r) (hl:x.length<1000):Ev (fun k=>api_Range_52.f k x len) (x.filter (keep len)):=by
 unfold api_Range_52.f;have h0:=IndexFunc_l0 x len hb hl x.length 0 (by omega);rw[List.drop_zero]at h0;refine Ev.bind (f:=fun k=>api_Range_81.f k x len) h0 ?_
 rcases fi_spec len x 0 with ⟨h1,h2⟩|⟨j,h1,h2,h3⟩
 ·rw [h1,h2];simp only[if_true];exact Ev.some
 ·rw [h2,Nat.zero_add];simp only[show ¬ (j:Int)= -1 by omega,if_false,up (show j<4611686018427387904 by omega)];have:=Delete_l0 len (x.length-(j+1)) x j (j+1) hb hl (by omega) (by omega);rw[h3]at this;exact this

theorem stepM_Sm {gap:Int} {s:St} {q:S40} (hs:∀ r∈fl s,Sm r) (hq:Sm q):∀ r∈fl (stepM gap s q),Sm r:=by
  intro r hr
  match s with
  |none=>simp only[stepM,fl,List.nil_append,List.mem_singleton]at hr;subst hr;exact hq
  | some (b,t)=>
    simp only[stepM]at hr
    split at hr<;>simp only[fl,List.mem_append,List.mem_singleton]at hr
    · rcases hr with hr|rfl
      · exact hs r (by simp[fl,hr])
      · have h1:=hs t (by simp[fl]);exact⟨h1.1,h1.2.1,hq.2.2.1,hq.2.2.2⟩
    · rcases hr with hr|rfl
      · exact hs r (by simp only[fl,List.mem_append,List.mem_singleton];exact hr)
      · exact hq
theorem stepM_len {gap:Int} {s:St} {q:S40}:(fl (stepM gap s q)).length≤(fl s).length+1:=by
  match s with
  |none=>simp[stepM,fl]
  |some (b,t)=>simp only[stepM];split<;>simp[fl]
theorem Layers_l0 (rs:List S40) (x0 gap len:Int) (hb:∀ r∈rs,Sm r) (hl:rs.length≤30) (hg:0≤gap∧gap≤24):∀ (n j:Nat) (s:St),j+n=rs.length→(∀ r∈fl s,Sm r)→(fl s).length≤j→Ev (fun k=>L_LayersIn.l0 k (fl s) rs (rs.length:Int) (j:Int) x0 gap len) ((fl ((rs.drop j).foldl (stepM gap) s)).filter (keep len),0)
 |0,j,s,h,hs,hsl=>by
  refine Ev.succ (f:=fun k=>L_LayersIn.l0 k (fl s) rs (rs.length:Int) (j:Int) x0 gap len) ?_;simp only[L_LayersIn.l0,show ¬ (j:Int)<(rs.length:Int) by omega,if_false];rw[show rs.drop j=[]from List.drop_eq_nil_of_le (by omega)];exact Ev.bind (Delete_ev (fl s) len hs (by omega)) Ev.some
 | n+1,j,s,h,hs,hsl=>by
  refine Ev.succ (f:=fun k=>L_LayersIn.l0 k (fl s) rs (rs.length:Int) (j:Int) x0 gap len) ?_;have hj:j<rs.length:=by omega
  have hq:=hb _ (rd_mem hj);have ih:=Layers_l0 rs x0 gap len hb hl hg n (j+1) (stepM gap s (rd_T40 rs (j:Int))) (by omega) (stepM_Sm hs hq) (by have:=stepM_len (gap:=gap) (s:=s) (q:=rd_T40 rs (j:Int));omega);rw[rd_drop hj,List.foldl_cons];obtain⟨x,hx⟩:∃ x,x=fl s:=⟨_,rfl⟩;rw[← hx]at hsl ⊢;simp only[L_LayersIn.l0,show(j:Int)<(rs.length:Int) by omega,show(0:Int)≤(j:Int) by omega,if_true,up (show j<4611686018427387904 by omega)];generalize rd_T40 rs (j:Int)=q at*
  match s with
  |none=>
   obtain rfl:x=[]:=hx;simp only[List.length_nil,show ¬ (wrap64 (((0:Nat):Int)-1)≥0) by unfold wrap64;omega,if_false,show(0:Nat)<8796093022208 by omega,if_true];exact ih
  |some (b,r)=>
   have hr:=hs r (by simp[fl]);obtain rfl:x=b++ [r]:=hx;simp only[List.length_append,List.length_singleton]at hsl;simp only[len_snoc b r (by omega)];have h1:(b.length:Int)<((b++ [r]).length:Int):=by simp only[List.length_append,List.length_singleton];omega
   have h2:(b++ [r]).length<8796093022208:=by simp only[List.length_append,List.length_singleton];omega
   obtain⟨u1,u2,u3,u4⟩:=hr;obtain⟨v1,v2,v3,v4⟩:=hq;simp only[show (b.length:Int)≥0 by omega,show(0:Int)≤(b.length:Int) by omega,h1,if_true,rd_snoc,Int.toNat_natCast,set_snoc];rw[w64 (n:=q.f0-r.f1) (by omega),w64 (n:=q.f0-r.f1-1) (by omega)]
   by_cases c:q.f0-r.f1-1≤gap
   ·simp only[c,if_true];simp only[stepM,c,if_true,fl_some]at ih ⊢;exact ih
   ·simp only[c,if_false,h2,if_true];simp only[stepM,c,if_false,fl_some]at ih ⊢;exact ih
def rE (x0 x1 x2:Int):Int:=if((1≤x0∧x0≤10000)∧(0≤x1∧x1≤24))∧(1≤x2∧x2≤24)then 0 else 2
theorem RuleErr_eq (x0 x1 x2:Int):Rf_RuleErr.f x0 x1 x2=some (rE x0 x1 x2):=by
 unfold Rf_RuleErr.f rE;simp only[Within_eq,Option.bind_some,decide_eq_true_eq]
 by_cases h1:1≤x0∧x0≤10000
 ·by_cases h2:0≤x1∧x1≤24
  ·by_cases h3:1≤x2∧x2≤24
   ·simp only[h1,h2,h3,and_self,if_true]
   ·simp only[h1,h2,h3,and_self,and_false,if_true,if_false]
  ·simp only[h1,h2,and_false,false_and,if_true,if_false,and_self]
 ·simp only[h1,false_and,if_false]
theorem rE_ok {x0 x1 x2:Int} (h:rE x0 x1 x2=0):(1≤x0∧x0≤10000)∧(0≤x1∧x1≤24)∧(1≤x2∧x2≤24):=by
 unfold rE at h;split at h<;>omega
def cl (l:List Int) (x0:Int) (i:Int):Bool:=decide (x0≤rd l i)
theorem G_Sm (p:Int→Bool) (gap:Int) (n:Nat) (hn:n≤30):∀ r∈fl (G p gap n),Sm r:=fun r hr=>by
 have:=G_in_range p gap n r hr;exact⟨by omega,by omega,by omega,by omega⟩
theorem LayersIn_j0 (l:List Int) (e x0 x1 x2:Int) (b:Bool) (hok:(if e=0 then(if b=true then 0 else 2)else e)=0→l.length≤24∧0≤x1∧x1≤24):Ev (fun k=>L_LayersIn.j0 k e b x0 x1 x2 l) (if(if e=0 then(if b=true then 0 else 2)else e)=0 then((fl (G (cl l x0) x1 l.length)).filter (keep x2),0)else([],(if e=0 then(if b=true then 0 else 2)else e))):=by
 refine Ev.succ (f:=fun k=>L_LayersIn.j0 k e b x0 x1 x2 l) ?_;simp only[L_LayersIn.j0,unless_eq,Option.bind_some];have hf:Ev (fun k=>L_first.f k [e,if b=true then 0 else 2]) (if e=0 then(if b=true then 0 else 2)else e):=by
  have:=first_ev [e,if b=true then 0 else 2] (by simp);rw[fnz2]at this;exact this
 refine Ev.bind hf ?_;generalize (if e=0 then(if b=true then 0 else 2)else e)=u at*
 by_cases h:u=0
 ·obtain ⟨h4,hg⟩:=hok h;simp only[h,if_true];have hr:Ev (fun k=>L_runs_floor.f k (l.length:Int) l x0 x1 x2) (fl (G (cl l x0) 0 l.length)):=by
   unfold L_runs_floor.f;refine runs_ev (cl l x0) (fun _=>L_runs_floor.p l x0) l.length (by omega) (fun i hi=>?_);unfold L_runs_floor.p cl;simp only[show (0:Int)≤(i:Int) by omega,show(i:Int)<(l.length:Int) by omega,if_true];exact Ev.some
  refine Ev.bind hr ?_;have hlen:=fl_len (cl l x0) 0 l.length;have:=Layers_l0 (fl (G (cl l x0) 0 l.length)) x0 x1 x2 (G_Sm _ _ _ (by omega)) (by omega) hg (fl (G (cl l x0) 0 l.length)).length 0 none (by omega) (by simp[fl]) (by simp[fl]);rw[List.drop_zero]at this;have hm:=mf_runs (cl l x0) x1 hg.1 l.length;unfold mf at hm;rw[hm]at this;exact this
 ·simp only[h,if_false];exact Ev.some
def lE (l:List Int) (x0 x1 x2:Int):Int:=if(pE l).2=0 then rE x0 x1 x2 else(pE l).2
theorem LayersIn_ev (l:List Int) (x0 x1 x2:Int) (hl:l.length<4611686018427387904):Ev (fun k=>L_LayersIn.f k l x0 x1 x2) (if lE l x0 x1 x2=0 then((fl (G (cl l x0) x1 l.length)).filter (keep x2),0)else([],lE l x0 x1 x2)):=by
 unfold L_LayersIn.f;refine Ev.bind (open_ev l hl) ?_;simp only[within_eq,isGates_eq,Option.bind_some,decide_eq_true_eq];have fin:∀ b:Bool,(if b=true then(0:Int)else 2)=rE x0 x1 x2→Ev (fun k=>L_LayersIn.j0 k (pE l).2 b x0 x1 x2 l) (if lE l x0 x1 x2=0 then((fl (G (cl l x0) x1 l.length)).filter (keep x2),0)else([],lE l x0 x1 x2)):=by
  intro b hb;have:=LayersIn_j0 l (pE l).2 x0 x1 x2 b (fun h=>by
   rw[hb]at h
   split at h
   ·rename_i h1
    have h2:=rE_ok h;have h3:=pE_ok h1
    omega
   ·rename_i h1;exact absurd h h1)
  rw[hb]at this;exact this
 by_cases h1:1≤x0∧x0≤10000
 ·by_cases h2:0≤x1∧x1≤24
  ·have:=fin (decide (1≤x2∧x2≤24)) (by unfold rE;simp only[h1,h2,and_self,true_and,decide_eq_true_eq]);simp only[h1,h2,and_self,if_true];exact this
  ·have:=fin false (by unfold rE;simp only[h1,h2,and_false,false_and,if_false,Bool.false_eq_true]);simp only[h1,h2,and_self,if_true,if_false];exact this
 ·have:=fin false (by unfold rE;simp only[h1,false_and,if_false,Bool.false_eq_true]);simp only[h1,if_false];exact this

theorem filter_len (p:S40→Bool) (x:List S40):(x.filter p).length≤x.length:=List.length_filter_le _ _
theorem awake_ev:Ev (fun k=>Lw_awake.f k) true:=
 Ev.of_mono (k:=1500) (fun k=>Lw_awake.mono k) (by kernel_rfl)
theorem ptE_one:ptE 0 1=0:=by decide
theorem ap_j9 (l:List Int) (y0 y1 y2 y3 y4 y5:Int) (hl:l.length≤24) (hp:(pE l).2=0) (hc:cE y0=0) (ht:ptE y1 y2=0) (h1: -9223372036854775808≤y1∧y1≤9223372036854775807) (h2: -9223372036854775808≤y2∧y2≤9223372036854775807) (hs:sm l≤y0):Ev (fun k=>Lw_CloudApart.j9 k l false y0 y1 y2 y3 y4 y5) true:=by
 refine Ev.succ (f:=fun k=>Lw_CloudApart.j9 k l false y0 y1 y2 y3 y4 y5) ?_;simp only[Lw_CloudApart.j9,Bool.false_eq_true,if_false,CopyInts_eq l (by omega),Option.bind_some];have e1:vE l y0 y1 y2=0:=by unfold vE;rw[if_pos hp,if_pos hc,if_pos ht,if_pos hs]
 have e2:vE l y0 0 1=0:=by unfold vE;rw[if_pos hp,if_pos hc,if_pos ptE_one,if_pos hs]
 have v1:=VisibilityOf_ev l y0 y1 y2 (by omega) h1 h2;have v2:=VisibilityOf_ev l y0 0 1 (by omega) (by omega) (by omega);rw[if_pos e1]at v1;rw[if_pos e2]at v2;refine Ev.bind v1 ?_;refine Ev.bind v2 ?_;have ho:=ptE_ok ht;have hc2:=cE_ok hc;have m:=vis_mono l y0 y1 y2 (fun x hx=>by
  have a1:x*y2≤0:=Int.mul_nonpos_of_nonpos_of_nonneg hx (by omega);have a2:0≤y1*y0:=Int.mul_nonneg ho.1 (by omega)
  omega) l.length 0
 have b1:=vis_le l y0 y1 y2 l.length 0;have b2:=vis_le l y0 0 1 l.length 0;simp only[if_true,Within_eq,Option.bind_some];rw[show (decide (0≤vis l y0 y1 y2 l.length 0∧vis l y0 y1 y2 l.length 0≤vis l y0 0 1 l.length 0))=true from decide_eq_true ⟨by omega,m⟩];simp only[if_true];rw[show (decide (vis l y0 0 1 l.length 0≤(l.length:Int)))=true from decide_eq_true (by omega)];exact Ev.some
theorem ap_fin (l:List Int) (y0 y1 y2 y3 y4 y5:Int) (hl:l.length≤24) (hp:(pE l).2=0) (h1: -9223372036854775808≤y1∧y1≤9223372036854775807) (h2: -9223372036854775808≤y2∧y2≤9223372036854775807):Ev (fun k=>(Rf_ConstantErr.f y0).bind fun t519=>(if t519=0 then((Rf_PartErr.f k y1 y2).bind fun t520=>(if t520=0 then((Rf_Rest.f k l y0 (l.length:Int)).bind fun t521=>(Lw_CloudApart.j9 k l (decide (t521<0)) y0 y1 y2 y3 y4 y5))else(Lw_CloudApart.j9 k l true y0 y1 y2 y3 y4 y5)))else(Lw_CloudApart.j9 k l true y0 y1 y2 y3 y4 y5))) true:=by
 have jt:Ev (fun k=>Lw_CloudApart.j9 k l true y0 y1 y2 y3 y4 y5) true:=by
  refine Ev.succ (f:=fun k=>Lw_CloudApart.j9 k l true y0 y1 y2 y3 y4 y5) ?_;simp only[Lw_CloudApart.j9,if_true];exact Ev.some
 obtain⟨p1,p2,p3⟩:=pE_ok hp;simp only[ConstantErr_eq,Option.bind_some]
 by_cases hc:cE y0=0
 ·simp only[hc,if_true];have hc2:=cE_ok hc;refine Ev.bind (PartErr_ev h1 h2) ?_
  by_cases ht:ptE y1 y2=0
  ·simp only[ht,if_true];refine Ev.bind (Rest_ev l y0 (by omega) p3 p2 l.length (Nat.le_refl _)) ?_;rw[List.take_length]
   by_cases q:y0-sm l<0
   ·rw [show decide (y0-sm l<0)=true from decide_eq_true q];exact jt
   ·rw [show decide (y0-sm l<0)=false from decide_eq_false q];exact ap_j9 l y0 y1 y2 y3 y4 y5 hl hp hc ht h1 h2 (by omega)
  ·simp only[ht,if_false];exact jt
 ·simp only[hc,if_false];exact jt
theorem ap_l5 (l:List Int) (A B C:List S40) (i:Nat) (hi:i<A.length) (hA:A.length<1000) (y0 y1 y2 y3 y4 y5:Int) (hC:C.length<1000)
  (hfin:Ev (fun k=>Lw_CloudApart.l3 k l A B C ((i+1:Nat):Int) y0 y1 y2 y3 y4 y5) true):
  ∀ (n j:Nat) (g:Bool),j+n=C.length→(g=true∨∃ s∈C.drop j,s.f0≤(rd_T40 A (i:Int)).f0∧(rd_T40 A (i:Int)).f1≤s.f1)→Ev (fun k=>Lw_CloudApart.l5 k l A B C (i:Int) true g (j:Int) y0 y1 y2 y3 y4 y5) true
 | 0,j,g,h,hg=>by
  refine Ev.succ (f:=fun k=>Lw_CloudApart.l5 k l A B C (i:Int) true g (j:Int) y0 y1 y2 y3 y4 y5) ?_;rw[show C.drop j=[]from List.drop_eq_nil_of_le (by omega)]at hg;have hg2:g=true:=by
   rcases hg with hg|⟨s,hs,_⟩
   ·exact hg
   ·cases hs
  simp only[Lw_CloudApart.l5,show ¬ (j:Int)<(C.length:Int) by omega,if_false,hg2,if_true,up (show i<4611686018427387904 by omega)];exact hfin
 | n +1,j,g,h,hg=>by
  refine Ev.succ (f:=fun k=>Lw_CloudApart.l5 k l A B C (i:Int) true g (j:Int) y0 y1 y2 y3 y4 y5) ?_;have hj:j<C.length:=by omega
  have ih:=ap_l5 l A B C i hi hA y0 y1 y2 y3 y4 y5 hC hfin n (j+1);rw[rd_drop hj]at hg;simp only[Lw_CloudApart.l5,show(j:Int)<(C.length:Int) by omega,show(0:Int)≤(j:Int) by omega,show(0:Int)≤(i:Int) by omega,show(i:Int)<(A.length:Int) by omega,if_true,up (show j<4611686018427387904 by omega)];generalize rd_T40 A (i:Int)=r at *;generalize rd_T40 C (j:Int)=s at*
  by_cases c:g=true
  ·simp only[c,if_true];exact ih true (by omega) (.inl rfl)
  ·simp only[c,if_false];have hg2:∃ t∈s::C.drop (j+1),t.f0≤r.f0∧r.f1≤t.f1:=by
    rcases hg with hg|hg
    ·exact absurd hg c
    ·exact hg
   obtain⟨t,ht,h1,h2⟩:=hg2
   by_cases d:s.f0≤r.f0
   ·simp only[d,if_true]
    by_cases d2:r.f1≤s.f1
    ·rw [show decide (r.f1≤s.f1)=true from decide_eq_true d2];exact ih true (by omega) (.inl rfl)
    ·rw [show decide (r.f1≤s.f1)=false from decide_eq_false d2];refine ih false (by omega) (.inr ⟨t,?_,h1,h2⟩)
     rcases List.mem_cons.mp ht with rfl|ht
     ·exact absurd h2 d2
     ·exact ht
   ·simp only[d,if_false];refine ih false (by omega) (.inr ⟨t,?_,h1,h2⟩)
    rcases List.mem_cons.mp ht with rfl|ht
    ·exact absurd h1 d
    ·exact ht
theorem range_eq {r s:S40}:((r.f0==s.f0 && r.f1==s.f1)=true)↔r=s:=by
 cases r;cases s;simp
theorem ap_l4 (l:List Int) (A B C:List S40) (i:Nat) (hi:i<A.length) (hA:A.length<1000) (y0 y1 y2 y3 y4 y5:Int) (hB:B.length<1000) (hs:Sm (rd_T40 A (i:Int))) (hk:keep y5 (rd_T40 A (i:Int))=true)
  (hfin:Ev (fun k=>Lw_CloudApart.l5 k l A B C (i:Int) true false 0 y0 y1 y2 y3 y4 y5) true):
  ∀ (n j:Nat) (g:Bool),j+n=B.length→(g=true∨rd_T40 A (i:Int)∈B.drop j)→Ev (fun k=>Lw_CloudApart.l4 k l A B C (i:Int) g false (j:Int) y0 y1 y2 y3 y4 y5) true
 | 0,j,g,h,hg=>by
  refine Ev.succ (f:=fun k=>Lw_CloudApart.l4 k l A B C (i:Int) g false (j:Int) y0 y1 y2 y3 y4 y5) ?_;rw[show B.drop j=[]from List.drop_eq_nil_of_le (by omega)]at hg;have hg2:g=true:=by
   rcases hg with hg|hg
   ·exact hg
   ·cases hg
  simp only[Lw_CloudApart.l4,show ¬ (j:Int)<(B.length:Int) by omega,if_false,hg2];exact hfin
 | n +1,j,g,h,hg=>by
  refine Ev.succ (f:=fun k=>Lw_CloudApart.l4 k l A B C (i:Int) g false (j:Int) y0 y1 y2 y3 y4 y5) ?_;have hj:j<B.length:=by omega
  have ih:=ap_l4 l A B C i hi hA y0 y1 y2 y3 y4 y5 hB hs hk hfin n (j+1);rw[rd_drop hj]at hg;simp only[Lw_CloudApart.l4,show(j:Int)<(B.length:Int) by omega,show(0:Int)≤(j:Int) by omega,show(0:Int)≤(i:Int) by omega,show(i:Int)<(A.length:Int) by omega,if_true,up (show j<4611686018427387904 by omega)];generalize rd_T40 A (i:Int)=r at *;generalize rd_T40 B (j:Int)=s at*
  by_cases c:g=true
  ·simp only[c,if_true];exact ih true (by omega) (.inl rfl)
  ·simp only[c,if_false];obtain⟨u1,u2,u3,u4⟩:=hs
   by_cases d:r=s
   ·simp only[range_eq.2 d,if_true];have hk2:decide (wrap64 (wrap64 (r.f1-r.f0)+1)≥y5)=true:=by
     unfold keep at hk;rw[w64 (n:=r.f1-r.f0) (by omega),w64 (n:=r.f1-r.f0+1) (by omega)];exact hk
    rw[hk2];exact ih true (by omega) (.inl rfl)
   ·simp only[show ¬ ((r.f0==s.f0 && r.f1==s.f1)=true)from fun e=>d (range_eq.1 e),if_false];refine ih false (by omega) (.inr ?_)
    rcases hg with hg|hg
    ·exact absurd hg c
    ·rcases List.mem_cons.mp hg with e|hg
     ·exact absurd e d
     ·exact hg
theorem ap_l3 (l:List Int) (A B C:List S40) (y0 y1 y2 y3 y4 y5:Int) (hA:A.length<1000) (hB:B.length<1000) (hC:C.length<1000)
  (hall:∀ r∈A,Sm r∧keep y5 r=true∧r∈B∧∃ s∈C,s.f0≤r.f0∧r.f1≤s.f1)
  (hfin:Ev (fun k=>(Rf_ConstantErr.f y0).bind fun t519=>(if t519=0 then((Rf_PartErr.f k y1 y2).bind fun t520=>(if t520=0 then((Rf_Rest.f k l y0 (l.length:Int)).bind fun t521=>(Lw_CloudApart.j9 k l (decide (t521<0)) y0 y1 y2 y3 y4 y5))else(Lw_CloudApart.j9 k l true y0 y1 y2 y3 y4 y5)))else(Lw_CloudApart.j9 k l true y0 y1 y2 y3 y4 y5))) true):
  ∀ (n i:Nat),i+n=A.length→Ev (fun k=>Lw_CloudApart.l3 k l A B C (i:Int) y0 y1 y2 y3 y4 y5) true
 |0,i,h=>by
  refine Ev.succ (f:=fun k=>Lw_CloudApart.l3 k l A B C (i:Int) y0 y1 y2 y3 y4 y5) ?_;simp only[Lw_CloudApart.l3,show ¬ (i:Int)<(A.length:Int) by omega,if_false];exact hfin
 |n+1,i,h=>by
  refine Ev.succ (f:=fun k=>Lw_CloudApart.l3 k l A B C (i:Int) y0 y1 y2 y3 y4 y5) ?_;have hi:i<A.length:=by omega
  have ih:=ap_l3 l A B C y0 y1 y2 y3 y4 y5 hA hB hC hall hfin n (i+1) (by omega);obtain⟨h1,h2,h3,s,h4,h5⟩:=hall _ (rd_mem hi);simp only[Lw_CloudApart.l3,show(i:Int)<(A.length:Int) by omega,if_true];have l5:=ap_l5 l A B C i hi hA y0 y1 y2 y3 y4 y5 hC ih C.length 0 false (by omega) (.inr ⟨s,by simpa using h4,h5⟩);exact ap_l4 l A B C i hi hA y0 y1 y2 y3 y4 y5 hB h1 h2 l5 B.length 0 false (by omega) (.inr (by simpa using h3))
theorem cnt_le (p:Int→Bool):∀ n,0≤cnt p n∧cnt p n≤n
 |0=>by simp[cnt]
 |n+1=>by have:=cnt_le p n;unfold cnt;split<;>omega
theorem ap_l2 (l:List Int) (A B C:List S40) (y0 y1 y2 y3 y4 y5:Int) (hl:l.length≤24) (hfin:Ev (fun k=>Lw_CloudApart.l3 k l A B C 0 y0 y1 y2 y3 y4 y5) true):
  ∀ (n i:Nat),i+n=l.length→Ev (fun k=>Lw_CloudApart.l2 k l A B C (cnt (cl l y3) l.length-cnt (cl l y3) i) (i:Int) y0 y1 y2 y3 y4 y5) true
 |0,i,h=>by
  refine Ev.succ (f:=fun k=>Lw_CloudApart.l2 k l A B C (cnt (cl l y3) l.length-cnt (cl l y3) i) (i:Int) y0 y1 y2 y3 y4 y5) ?_;obtain rfl:i=l.length:=by omega
  simp only[Lw_CloudApart.l2,Int.lt_irrefl,if_false,Int.sub_self,if_true];exact hfin
 | n+1,i,h=>by
  refine Ev.succ (f:=fun k=>Lw_CloudApart.l2 k l A B C (cnt (cl l y3) l.length-cnt (cl l y3) i) (i:Int) y0 y1 y2 y3 y4 y5) ?_;have ih:=ap_l2 l A B C y0 y1 y2 y3 y4 y5 hl hfin n (i+1) (by omega);have b1:=cnt_le (cl l y3) l.length;have b2:=cnt_le (cl l y3) i;simp only[Lw_CloudApart.l2,show(i:Int)<(l.length:Int) by omega,show(0:Int)≤(i:Int) by omega,if_true,up (show i<4611686018427387904 by omega)];rw[show cnt (cl l y3) (i+1)=cnt (cl l y3) i+if cl l y3 (i:Int)=true then 1 else 0 from rfl]at ih
  by_cases c:rd l (i:Int)≥y3
  ·have cc:cl l y3 (i:Int)=true:=by unfold cl;simpa using c
   rw[if_pos cc]at ih;simp only[c,if_true];rw[w64 (by omega)];rw[show cnt (cl l y3) l.length-(cnt (cl l y3) i+1)=cnt (cl l y3) l.length-cnt (cl l y3) i-1 by omega]at ih;exact ih
  ·have cc:¬ cl l y3 (i:Int)=true:=by unfold cl;simpa using c
   rw[if_neg cc,Int.add_zero]at ih;simp only[c,if_false];exact ih
theorem ap_l1 (l:List Int) (A B C:List S40) (y0 y1 y2 y3 y4 y5:Int) (hl:l.length≤24) (hg:0≤y4∧y4≤24) (i:Nat) (hi:i<B.length) (hB:B.length<1000) (h1:(rd_T40 B (i:Int)).f1<(l.length:Int)) (d:Int) (hfin:Ev (fun k=>Lw_CloudApart.l0 k l A B C d ((i+1:Nat):Int) y0 y1 y2 y3 y4 y5) true):
  ∀ (m:Nat) (k g c:Int),k+m=(rd_T40 B (i:Int)).f1+1→0≤k→0≤g∧g≤24→0≤c→c+m≤100000→inn (cl l y3) y4 m k g c=some (0,d)→Ev (fun K=>Lw_CloudApart.l1 K l A B C c (i:Int) g k y0 y1 y2 y3 y4 y5) true
 |0,k,g,c,h,hk,hg2,hc,hcm,hn=>by
  refine Ev.succ (f:=fun K=>Lw_CloudApart.l1 K l A B C c (i:Int) g k y0 y1 y2 y3 y4 y5) ?_;simp only[inn,Option.some.injEq,Prod.mk.injEq]at hn;obtain⟨_,rfl⟩:=hn;simp only[Lw_CloudApart.l1,show(0:Int)≤(i:Int) by omega,show(i:Int)<(B.length:Int) by omega,show ¬ k≤(rd_T40 B (i:Int)).f1 by omega,if_true,if_false,up (show i<4611686018427387904 by omega)];exact hfin
 | m+1,k,g,c,h,hk,hg2,hc,hcm,hn=>by
  refine Ev.succ (f:=fun K=>Lw_CloudApart.l1 K l A B C c (i:Int) g k y0 y1 y2 y3 y4 y5) ?_;have ih:=ap_l1 l A B C y0 y1 y2 y3 y4 y5 hl hg i hi hB h1 d hfin m (k+1);simp only[Lw_CloudApart.l1,show(0:Int)≤(i:Int) by omega,show(i:Int)<(B.length:Int) by omega,show k≤(rd_T40 B (i:Int)).f1 by omega,hk,show k<(l.length:Int) by omega,if_true];rw[w64 (n:=k+1) (by omega)];unfold inn at hn
  by_cases q:rd l k≥y3
  ·have cc:cl l y3 k=true:=by unfold cl;simpa using q
   simp only[cc,if_true,show ¬ (0:Int)>y4 by omega,if_false]at hn;simp only[q,if_true,show ¬ (0:Int)>y4 by omega,if_false];rw[w64 (n:=c+1) (by omega)];exact ih 0 (c+1) (by omega) (by omega) (by omega) (by omega) (by omega) hn
  ·have cc:¬ cl l y3 k=true:=by unfold cl;simpa using q
   simp only[cc,if_false,Bool.false_eq_true]at hn;simp only[q,if_false];rw[w64 (n:=g+1) (by omega)]
   by_cases r:g+1>y4
   ·rw [if_pos r]at hn;exact absurd hn (by simp)
   ·rw [if_neg r]at hn;simp only[r,if_false];exact ih (g+1) c (by omega) (by omega) (by omega) hc (by omega) hn
theorem ap_l0 (l:List Int) (A B C:List S40) (y0 y1 y2 y3 y4 y5:Int) (hl:l.length≤24) (hg:0≤y4∧y4≤24) (hB:B.length≤30) (hb:∀ r∈B,0≤r.f0∧r.f0≤r.f1∧r.f1<(l.length:Int)) (t:Int) (hfin:Ev (fun k=>Lw_CloudApart.l2 k l A B C t 0 y0 y1 y2 y3 y4 y5) true):
    ∀ (n i:Nat) (done rest:Int),i+n=B.length→done+rest=t→0≤done→done≤30*(i:Int)→Lay (cl l y3) y4 (B.drop i) rest→(0<i→∀ s t,B.drop i=s::t→s.f0-(rd_T40 B ((i-1:Nat):Int)).f1-1>y4)→Ev (fun k=>Lw_CloudApart.l0 k l A B C done (i:Int) y0 y1 y2 y3 y4 y5) true
  | 0,i,done,rest,h,ht,hd,hd2,hL,hprev=>by
    refine Ev.succ (f:=fun k=>Lw_CloudApart.l0 k l A B C done (i:Int) y0 y1 y2 y3 y4 y5) ?_;rw[show B.drop i=[]from List.drop_eq_nil_of_le (by omega)]at hL;simp only[Lay]at hL;simp only[Lw_CloudApart.l0,show ¬ (i:Int)<(B.length:Int) by omega,if_false];rw[show done=t by omega];exact hfin
  | n + 1, i,done,rest,h,ht,hd,hd2,hL,hprev=>by
    refine Ev.succ (f:=fun k=>Lw_CloudApart.l0 k l A B C done (i:Int) y0 y1 y2 y3 y4 y5) ?_;have hi:i<B.length:=by omega
    obtain⟨b1,b2,b3⟩:=hb _ (rd_mem hi);rw[rd_drop hi]at hL hprev;obtain⟨a,b,g1,g2,g3,g4⟩:=hL;have hrd:∀ x:Int,0≤x→cl l y3 x=true→¬ rd l x<y3:=fun x _ hx=>by unfold cl at hx;simp at hx;omega
    obtain⟨e1,e2,e3,e4,e5⟩:=g1;have hk:((rd_T40 B (i:Int)).f1+1-(rd_T40 B (i:Int)).f0).toNat≤24:=by omega
    have ha :0≤a∧a≤24:=by
      have :∀ (m:Nat) (k g c g' c':Int),inn (cl l y3) y4 m k g c=some (g',c')→c≤c'∧c'≤c+m:=by
        intro m
        induction m with
        |zero=>intro k g c g' c' hx;simp only[inn,Option.some.injEq,Prod.mk.injEq]at hx;omega
        | succ m ihm=>
          intro k g c g' c' hx;unfold inn at hx
          by_cases u:(if cl l y3 k=true then 0 else g+1)>y4
          · rw[if_pos u]at hx;exact absurd hx (by simp)
          · rw[if_neg u]at hx;have:=ihm _ _ _ _ _ hx
            by_cases v:cl l y3 k=true
            · rw[if_pos v]at this;omega
            · rw[if_neg v]at this;omega
      have h7:=this _ _ _ _ _ _ (e5 0)
      omega
    have ih:=ap_l0 l A B C y0 y1 y2 y3 y4 y5 hl hg hB hb t hfin n (i+1) (done+a) b (by omega) (by omega) (by omega) (by omega) g2 (fun _=>by simpa using g4);have inner:=ap_l1 l A B C y0 y1 y2 y3 y4 y5 hl hg i hi (by omega) b3 (done+a) ih ((rd_T40 B (i:Int)).f1+1-(rd_T40 B (i:Int)).f0).toNat (rd_T40 B (i:Int)).f0 0 done (by omega) b1 (by omega) hd (by omega) (e5 done);have j3:Ev (fun k=>Lw_CloudApart.j3 k l A B C done (i:Int) false y0 y1 y2 y3 y4 y5) true:=by
      refine Ev.succ (f:=fun k=>Lw_CloudApart.j3 k l A B C done (i:Int) false y0 y1 y2 y3 y4 y5) ?_;simp only[Lw_CloudApart.j3,Bool.false_eq_true,if_false,show(0:Int)≤(i:Int) by omega,show(i:Int)<(B.length:Int) by omega,if_true];exact inner
    have hw:wrap64 ((l.length:Int)-1)=(l.length:Int)-1:=by unfold wrap64;omega
    simp only[Lw_CloudApart.l0,show(i:Int)<(B.length:Int) by omega,show(0:Int)≤(i:Int) by omega,if_true,Within_eq,Option.bind_some,hw,decide_eq_true_eq,show(0≤(rd_T40 B (i:Int)).f0∧(rd_T40 B (i:Int)).f0≤(l.length:Int)-1)from⟨by omega,by omega⟩,show((rd_T40 B (i:Int)).f0≤(rd_T40 B (i:Int)).f1∧(rd_T40 B (i:Int)).f1≤(l.length:Int)-1)from⟨by omega,by omega⟩,and_self,b1,show(0:Int)≤(rd_T40 B (i:Int)).f1 by omega,show(rd_T40 B (i:Int)).f0<(l.length:Int) by omega,b3,hrd _ e1 e3,hrd _ (show(0:Int)≤(rd_T40 B (i:Int)).f1 by omega) e4,if_false,decide_false]
    by_cases c0:(i:Int)>0
    · have hp:=hprev (by omega) _ _ rfl;have hi2:i-1<B.length:=by omega
      obtain⟨q1,q2,q3⟩:=hb _ (rd_mem hi2);have ew:wrap64 ((i:Int)-1)=((i-1:Nat):Int):=by unfold wrap64;omega
      simp only[c0,if_true,ew,show(0:Int)≤((i-1:Nat):Int) by omega,show((i-1:Nat):Int)<(B.length:Int) by omega];rw[w64 (n:=(rd_T40 B (i:Int)).f0-(rd_T40 B ((i-1:Nat):Int)).f1) (by omega),w64 (n:=(rd_T40 B (i:Int)).f0-(rd_T40 B ((i-1:Nat):Int)).f1-1) (by omega)];simp only[show ¬ ((rd_T40 B (i:Int)).f0-(rd_T40 B ((i-1:Nat):Int)).f1-1≤y4) by omega,if_false];exact j3
    · simp only[c0,if_false];exact j3
theorem filter_one {x:List S40} (h:∀ r∈x,r.f0≤r.f1):x.filter (keep 1)=x:=by
 rw[List.filter_eq_self];intro r hr;have:=h r hr;unfold keep;simp;omega
theorem CloudApart_pure (l:List Int) (_:l.length≤maxLen) (_:∀ x∈l,(Lit.int .i64 x).wf=true) (y0:Int) (h0:(Lit.int .i64 y0).wf=true) (y1:Int) (h1:(Lit.int .i64 y1).wf=true) (y2:Int) (h2:(Lit.int .i64 y2).wf=true) (y3:Int) (h3:(Lit.int .i64 y3).wf=true) (y4:Int) (h4:(Lit.int .i64 y4).wf=true) (y5:Int) (h5:(Lit.int .i64 y5).wf=true) (z:Int) (hz:(Lit.int .i64 z).wf=true):∃ k,Lw_CloudApart.f k l y0 y1 y2 y3 y4 y5 z=some true:=by
 have h1:=i64_in h1;have h2:=i64_in h2;have h3:=i64_in h3
 apply Ev.ex (f:=fun k=>Lw_CloudApart.f k l y0 y1 y2 y3 y4 y5 z)
 unfold Lw_CloudApart.f;refine Ev.bind awake_ev ?_;have jt:Ev (fun k=>Lw_CloudApart.j0 k l z true y0 y1 y2 y3 y4 y5) true:=by
  refine Ev.succ (f:=fun k=>Lw_CloudApart.j0 k l z true y0 y1 y2 y3 y4 y5) ?_;simp only[Lw_CloudApart.j0,if_true];exact Ev.some
 simp only[few_eq,if_true,Option.bind_some,decide_eq_true_eq]
 by_cases hf:l.length≤26
 ·have hl:l.length<4611686018427387904:=by omega
  simp only[hf,if_true];refine Ev.bind (ProfileErr_ev l hl) ?_
  by_cases hp:(pE l).2=0
  ·obtain ⟨p1,p2,p3⟩:=pE_ok hp;simp only[hp,if_true,RuleErr_eq,Option.bind_some]
   by_cases hr:rE y3 y4 y5=0
   ·obtain ⟨r1,r2,r3⟩:=rE_ok hr;simp only[hr,if_true,Within_eq,Option.bind_some];rw[w64 (n:=y3-1) (by omega)]
    by_cases hz2:0≤z∧z≤y3-1
    ·simp only[hz2,and_self,decide_true,Bool.not_true];refine Ev.succ (f:=fun k=>Lw_CloudApart.j0 k l z false y0 y1 y2 y3 y4 y5) ?_;simp only[Lw_CloudApart.j0,Bool.false_eq_true,if_false,CopyInts_eq l (by omega),Option.bind_some];have e1:lE l y3 y4 y5=0:=by unfold lE;rw[if_pos hp,hr]
     have e2:lE l y3 y4 1=0:=by unfold lE rE;rw[if_pos hp,if_pos ⟨⟨r1,r2⟩,by omega,by omega⟩]
     have e3:lE l (y3-z) y4 y5=0:=by unfold lE rE;rw[if_pos hp,if_pos ⟨⟨⟨by omega,by omega⟩,r2⟩,r3⟩]
     have v1:=LayersIn_ev l y3 y4 y5 hl;have v2:=LayersIn_ev l y3 y4 1 hl;have v3:=LayersIn_ev l (y3-z) y4 y5 hl;rw[if_pos e1]at v1;rw[if_pos e2]at v2;rw[if_pos e3]at v3;have hB:=G_in_range (cl l y3) y4 l.length;have hC:=G_in_range (cl l (y3-z)) y4 l.length;rw[filter_one (fun r hr=>(hB r hr).2.1)]at v2;refine Ev.bind v1 ?_;refine Ev.bind v2 ?_;rw[w64 (n:=y3-z) (by omega)];refine Ev.bind v3 ?_;simp only[if_true,bne_self_eq_false];have lB:=fl_len (cl l y3) y4 l.length;have lC:=fl_len (cl l (y3-z)) y4 l.length;have hin:=(G_in (cl l y3) (cl l (y3-z)) (fun i hi=>by unfold cl at hi ⊢;simp at hi ⊢;omega) y4 r2.1 l.length).1;have hlay:=G_lay (cl l y3) y4 r2.1 l.length;have hSm:=G_Sm (cl l y3) y4 l.length (by omega);have hcn:=cnt_le (cl l y3) l.length;generalize fl (G (cl l y3) y4 l.length)=B at *;generalize fl (G (cl l (y3-z)) y4 l.length)=C at *;have lA:=filter_len (keep y5) B;have lC2:=filter_len (keep y5) C;refine Ev.succ (f:=fun k=>Lw_CloudApart.j1 k l (B.filter (keep y5)) B (C.filter (keep y5)) false y0 y1 y2 y3 y4 y5) ?_;simp only[Lw_CloudApart.j1,Bool.false_eq_true,if_false];have l3:=ap_l3 l (B.filter (keep y5)) B (C.filter (keep y5)) y0 y1 y2 y3 y4 y5 (by omega) (by omega) (by omega) (fun r hr=>by
      obtain⟨m1,m2⟩:=List.mem_filter.mp hr;obtain⟨s,s1,s2,s3⟩:=hin r m1;refine⟨hSm r m1,m2,m1,s,List.mem_filter.mpr ⟨s1,?_⟩,s2,s3⟩;unfold keep at m2 ⊢
      simp at m2 ⊢
      omega) (ap_fin l y0 y1 y2 y3 y4 y5 p2 hp h1 h2) (B.filter (keep y5)).length 0 (by omega)
     have l2:=ap_l2 l (B.filter (keep y5)) B (C.filter (keep y5)) y0 y1 y2 y3 y4 y5 p2 l3 l.length 0 (by omega);rw[show cnt (cl l y3) 0=0 from rfl,Int.sub_zero]at l2;exact ap_l0 l (B.filter (keep y5)) B (C.filter (keep y5)) y0 y1 y2 y3 y4 y5 p2 r2 (by omega) hB (cnt (cl l y3) l.length) l2 B.length 0 0 (cnt (cl l y3) l.length) (by omega) (by omega) (by omega) (by omega) (by simpa using hlay) (fun h=>absurd h (by omega))
    ·simp only[hz2,decide_false,Bool.not_false];exact jt
   ·simp only[hr,if_false];exact jt
  ·simp only[hp,if_false];exact jt
 ·simp only[hf,if_false];exact jt
end Go.Proofs.YteiafijbgjgiaaaGreat.P
