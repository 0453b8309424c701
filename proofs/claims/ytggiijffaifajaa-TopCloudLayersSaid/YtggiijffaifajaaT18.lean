/-
PLAIN LAW: what the walks compute answers as the statement says (no program in sight; Ev: from some number of rounds on).
-/
import Derived.Test.YtggiijffaifajaaT17
namespace Go.Proofs.Ytggiijffaifajaa.P
open Go Go.RowKit Go.Proofs.Ytggiijffaifajaa.A Go.Proofs.YtggiijffaifajaaW.PrintWords Go.Proofs.YtggiijffaifajaaW.PrintLast Go.Proofs.YtggiijffaifajaaW.PrintMore
set_option linter.unusedSimpArgs false
set_option linter.unusedVariables false
def Ev {α:Type} (f:Nat→Option α) (r:α):Prop:=∃ k,∀ j,k≤j→f j=some r

theorem Ev.some {α:Type} {r:α}:Ev (fun _=>Option.some r) r:=⟨0,fun _ _=>rfl⟩
theorem Ev.bind {α β:Type} {f:Nat→Option α} {g:Nat→α→Option β} {a:α} {b:β} (h:Ev f a) (h2:Ev (fun k=>g k a) b):Ev (fun k=>(f k).bind (g k)) b:=by
 obtain⟨k,hk⟩:=h;obtain⟨m,hm⟩:=h2;exact⟨max k m,fun j hj=>by show(f j).bind (g j)=_;rw[hk j (by omega)];exact hm j (by omega)⟩
theorem Ev.succ {α:Type} {f:Nat→Option α} {r:α} (h:Ev (fun k=>f (k+1)) r):Ev f r:=by
 obtain⟨k,hk⟩:=h;exact⟨k+1,fun j hj=>by obtain⟨m,rfl⟩:∃ m,j=m+1:=⟨j-1,by omega⟩;exact hk m (by omega)⟩
theorem Ev.congr {α:Type} {f g:Nat→Option α} {r:α} (e:∀ k,f k=g k) (h:Ev f r):Ev g r:=by
 obtain⟨k,hk⟩:=h;exact⟨k,fun j hj=>by rw[← e j];exact hk j hj⟩
theorem Ev.ex {α:Type} {f:Nat→Option α} {r:α} (h:Ev f r):∃ k,f k=Option.some r:=let ⟨k,hk⟩:=h;⟨k,hk k (Nat.le_refl _)⟩
theorem Ev.of_mono {α:Type} {f:Nat→Option α} {r:α} (hm:∀ k,LeO (f k) (f (k+1))) {k:Nat} (h:f k=Option.some r):Ev f r:=by
  refine⟨k,fun j hj=>?_⟩
  induction j with
  | zero => obtain rfl:k=0:=by omega
            exact h
  | succ j ih=>
    by_cases e:k=j+1
    · subst e;exact h
    · exact hm j r (ih (by omega))
theorem up {i:Nat} (h:i<4611686018427387904):wrap64 ((i:Int)+1)=((i+1:Nat):Int):=by
 unfold wrap64;omega
theorem w64 {n:Int} (h: -9223372036854775808≤n∧n≤9223372036854775807):wrap64 n=n:=by unfold wrap64;omega
theorem rd_nat (l:List Int) (i:Nat):rd l (i:Int)=l.getD i 0:=by unfold rd;simp
theorem drop_rd {l:List Int} {i:Nat} (h:i<l.length):l.drop i=rd l (i:Int)::l.drop (i+1):=by
 rw[rd_nat,List.drop_eq_getElem_cons h]
 simp[List.getD_eq_getElem?_getD,h]
theorem drop_getD {α:Type} {l:List α} {i:Nat} (z:α) (h:i<l.length):l.drop i=l.getD i z::l.drop (i+1):=by
 rw[List.drop_eq_getElem_cons h]
 simp[List.getD_eq_getElem?_getD,h]

theorem within_eq (a b c:Int):L_within.f a b c=some (decide (b≤a∧a≤c)):=by
 unfold L_within.f
 by_cases h:b≤a<;>simp[h]
theorem Within_eq (a b c:Int):Bs_Within.f a b c=some (decide (b≤a∧a≤c)):=by
 unfold Bs_Within.f
 by_cases h:b≤a<;>simp[h]
theorem unless_eq (b:Bool) (e:Int):L_unless.f b e=some (if b=true then 0 else e):=by
 unfold L_unless.f
 cases b<;>simp
def fnz:List Int→Int
 | []=>0
 |x::r=>if x=0 then fnz r else x

theorem first_l0 (l:List Int) (hl:l.length<4611686018427387904):∀ (n i:Nat),i+n=l.length→Ev (fun k=>L_first.l0 k l (l.length:Int) (i:Int)) (fnz (l.drop i))
 |0,i,h=>by
  refine Ev.succ (f:=fun k=>L_first.l0 k l (l.length:Int) (i:Int)) ?_;have h1:¬ (i:Int)<(l.length:Int):=by omega
  simp only[L_first.l0,h1,if_false];rw[show l.drop i=[]from List.drop_eq_nil_of_le (by omega)];exact Ev.some
 |n+1,i,h=>by
  refine Ev.succ (f:=fun k=>L_first.l0 k l (l.length:Int) (i:Int)) ?_;have h1:(i:Int)<(l.length:Int):=by omega
  have h2:(0:Int)≤(i:Int):=by omega
  simp only[L_first.l0,h1,h2,if_true,up (show i<4611686018427387904 by omega)];rw[drop_rd (show i<l.length by omega)];unfold fnz
  by_cases e:rd l (i:Int)=0
  ·simp only[e,if_true];exact first_l0 l hl n (i+1) (by omega)
  ·simp only[e,if_false];exact Ev.some
theorem first_ev (l:List Int) (hl:l.length<4611686018427387904):Ev (fun k=>L_first.f k l) (fnz l):=first_l0 l hl l.length 0 (by omega)

theorem CopyInts_eq (l:List Int) (h:l.length<4611686018427):Bs_CopyInts.f l=some l:=by
 unfold Bs_CopyInts.f;simp only[Option.bind_some,List.length_nil,List.nil_append];rw[if_pos (by omega)]
def chk {α:Type} (p:α→Int):List α→Nat→Int×Int
 | [],_=>(0,0)
 |x::r,i=>if p x=0 then chk p r (i+1)else((i:Int),p x)
theorem chk_all {α:Type} {p:α→Int}:∀ {l:List α} {i:Nat},(chk p l i).2=0→∀ x∈l,p x=0
 | [],i,_=>by simp
 | y::r,i,h=>by
  unfold chk at h
  split at h<;>rename_i e
  ·intro x hx
   rcases List.mem_cons.mp hx with rfl|hx
   ·exact e
   ·exact chk_all h x hx
  ·exact absurd h e
theorem chk_of {α:Type} {p:α→Int}:∀ {l:List α} {i:Nat},(∀ x∈l,p x=0)→chk p l i=(0,0)
 | [],i,_=>rfl
 |y::r,i,h=>by
  unfold chk;rw[if_pos (h y List.mem_cons_self)];exact chk_of (fun x hx=>h x (List.mem_cons_of_mem _ hx))
theorem chk_loop {α:Type} (z:α) (p:α→Int) (l:List α) (hl:l.length<4611686018427387904) (F:Nat→Int→Option (Int×Int))
  (h0:∀ k i,¬ i<(l.length:Int)→F (k+1) i=some (0,0))
  (h1:∀ k (i:Nat),i<l.length→F (k+1) (i:Int)=if p (l.getD i z)=0 then F k (wrap64 ((i:Int)+1))else some ((i:Int),p (l.getD i z))):
  ∀ (n i:Nat),i+n=l.length→Ev (fun k=>F k (i:Int)) (chk p (l.drop i) i)
 |0,i,h=>by
  refine Ev.succ (f:=fun k=>F k (i:Int)) ?_;rw[show l.drop i=[]from List.drop_eq_nil_of_le (by omega)];exact Ev.congr (fun k=>(h0 k i (by omega)).symm) Ev.some
 |n+1,i,h=>by
  refine Ev.succ (f:=fun k=>F k (i:Int)) ?_;refine Ev.congr (fun k=>(h1 k i (by omega)).symm) ?_;rw[drop_getD z (show i<l.length by omega)];unfold chk
  by_cases e:p (l.getD i z)=0
  ·simp only[e,if_true,up (show i<4611686018427387904 by omega)];exact chk_loop z p l hl F h0 h1 n (i+1) (by omega)
  ·simp only[e,if_false];exact Ev.some
theorem isSignal_eq (a:Int):L_isSignal.f a=some (decide (0≤a∧a≤10000)):=by
 unfold L_isSignal.f;rw[within_eq];rfl
def sE (x:Int):Int:=if 0≤x∧x≤10000 then 0 else 2
def pE (l:List Int):Int×Int:=if l.length=0 then(0,10)else if 24<l.length then(0,8)else chk sE l 0
theorem CheckProfile_1_eq (a:Int):L_CheckProfile_1.f a=some (sE a):=by
 unfold L_CheckProfile_1.f sE;simp only[isSignal_eq,unless_eq,Option.bind_some,decide_eq_true_eq]
theorem each_profile_ev (l:List Int) (hl:l.length<4611686018427387904):Ev (fun k=>L_each_int_CheckProfile_1.f k l) (chk sE l 0):=by
 refine chk_loop 0 sE l hl (fun k i=>L_each_int_CheckProfile_1.l0 k l (l.length:Int) i) (fun k i h=>?_) (fun k i h=>?_) l.length 0 (by omega)
 ·simp only[L_each_int_CheckProfile_1.l0,h,if_false]
 ·simp only[L_each_int_CheckProfile_1.l0,show(i:Int)<(l.length:Int) by omega,show(0:Int)≤(i:Int) by omega,if_true,CheckProfile_1_eq,Option.bind_some,rd_nat]
theorem CheckProfile_ev (l:List Int) (hl:l.length<4611686018427387904):Ev (fun k=>L_CheckProfile.f k l) (pE l):=by
 unfold L_CheckProfile.f;simp only[unless_eq,Option.bind_some];refine Ev.bind (first_ev _ (by simp)) ?_;unfold pE
 by_cases h1:l.length=0
 ·simp only[h1,show ¬ ((0:Nat):Int)>0 by omega,decide_false,fnz];exact Ev.some
 ·by_cases h2:24<l.length
  ·simp only[h1,h2,show(l.length:Int)>0 by omega,show ¬ (l.length:Int)≤24 by omega,decide_false,decide_true,fnz,if_true,if_false];exact Ev.some
  ·simp only[h1,h2,show(l.length:Int)>0 by omega,show(l.length:Int)≤24 by omega,decide_true,fnz,if_true,if_false];exact Ev.bind (each_profile_ev l hl) Ev.some
theorem open_ev (l:List Int) (hl:l.length<4611686018427387904):Ev (fun k=>L_open.f k l) (l,(pE l).2):=by
 unfold L_open.f;exact Ev.bind (CheckProfile_ev l hl) Ev.some
theorem pE_ok {l:List Int} (h:(pE l).2=0):0<l.length∧l.length≤24∧∀ x∈l,0≤x∧x≤10000:=by
 unfold pE at h
 split at h
 ·exact absurd h (by simp)
 split at h
 ·exact absurd h (by simp)
 refine⟨by omega,by omega,fun x hx=>?_⟩;have:=chk_all h x hx;unfold sE at this
 split at this<;>omega
def hE (x:Int):Int:=if 0≤x∧x≤20000 then 0 else 2
def mE (l:List Int):Int:=if l.length=0 then 10 else if 15<l.length then 8 else(chk hE l 0).2
def mid (l:List Int):Int:=(isort l).getD ((l.length-1) / 2) 0
theorem isHeight_eq (a:Int):L_isHeight.f a=some (decide (0≤a∧a≤20000)):=by
 unfold L_isHeight.f;rw[within_eq];rfl
theorem MiddleOf_1_eq (a:Int):L_MiddleOf_1.f a=some (hE a):=by
 unfold L_MiddleOf_1.f hE;simp only[isHeight_eq,unless_eq,Option.bind_some,decide_eq_true_eq]
theorem isort_length (l:List Int):(isort l).length=l.length:=(isort_perm l).length_eq
theorem half_eq {n:Nat} (h:0<n) (h2:n<1000):wrap64 (Int.tdiv (wrap64 ((n:Int)-1)) 2)=(((n-1) / 2:Nat):Int):=by
 rw[w64 (n:=(n:Int)-1) (by omega),Int.tdiv_eq_ediv_of_nonneg (by omega),w64 (by omega)];omega
theorem MiddleOf_ev (l:List Int) (hl:l.length<4611686018427387904):Ev (fun k=>L_MiddleOf.f k l) (if mE l=0 then(mid l,0)else(0,mE l)):=by
 unfold L_MiddleOf.f;simp only[unless_eq,Option.bind_some];refine Ev.bind (first_ev _ (by simp)) ?_;unfold mE
 by_cases h1:l.length=0
 ·simp only[h1,show ¬ ((0:Nat):Int)>0 by omega,decide_false,fnz];exact Ev.some
 ·by_cases h2:15<l.length
  ·simp only[h1,h2,show(l.length:Int)>0 by omega,show ¬ (l.length:Int)≤15 by omega,decide_false,decide_true,fnz,if_true,if_false];exact Ev.some
  ·simp only[h1,h2,show(l.length:Int)>0 by omega,show(l.length:Int)≤15 by omega,decide_true,fnz,if_true,if_false];refine Ev.bind (a:=chk hE l 0) ?_ ?_
   ·refine chk_loop 0 hE l hl (fun k i=>L_each_int_MiddleOf_1.l0 k l (l.length:Int) i) (fun k i h=>?_) (fun k i h=>?_) l.length 0 (by omega)
    ·simp only[L_each_int_MiddleOf_1.l0,h,if_false]
    ·simp only[L_each_int_MiddleOf_1.l0,show(i:Int)<(l.length:Int) by omega,show(0:Int)≤(i:Int) by omega,if_true,MiddleOf_1_eq,Option.bind_some,rd_nat]
   ·by_cases e:(chk hE l 0).2=0
    ·simp only[e,if_true,L_sorted_ints.f,slices_Sort_int_int.f,show l.length<17592186044416 by omega,show l.length<4611686018427387904 by omega,Option.bind_some,half_eq (show 0<l.length by omega) (by omega),isort_length,show(0:Int)≤(((l.length-1) / 2:Nat):Int) by omega,show(((l.length-1) / 2:Nat):Int)<(l.length:Int) by omega,rd_nat];exact Ev.some
    ·simp only[e,if_false];exact Ev.some
def cl (l:List Int) (v:Int):Nat:=l.countP (fun x=>decide (x<v))
theorem cl_append (a b:List Int) (v:Int):cl (a++b) v=cl a v+cl b v:=List.countP_append
theorem cl_le (a:List Int) (v:Int):cl a v≤a.length:=List.countP_le_length
theorem cl_perm {a b:List Int} (h:a.Perm b) (v:Int):cl a v=cl b v:=h.countP_eq _
theorem cl_all {a:List Int} {v:Int} (h:∀ x∈a,x<v):cl a v=a.length:=List.countP_eq_length.mpr (fun x hx=>decide_eq_true (h x hx))
theorem cl_none {a:List Int} {v:Int} (h:∀ x∈a,v≤x):cl a v=0:=List.countP_eq_zero.mpr (fun x hx=>by have:=h x hx;simp;omega)
theorem sorted_take {S:List Int} (hs:S.Pairwise (fun a b=>a≤b)) {i:Nat} (hi:i<S.length):(∀ x∈S.take (i+1),x≤S.getD i 0)∧(∀ x∈S.drop i,S.getD i 0≤x):=by
 have e:S=S.take i++(S.getD i 0::S.drop (i+1)):=by rw[← drop_getD 0 hi,List.take_append_drop]
 rw[e]at hs;obtain⟨_,h2,h3⟩:=List.pairwise_append.mp hs;obtain⟨h4,_⟩:=List.pairwise_cons.mp h2
 constructor
 ·intro x hx;rw[List.take_add_one]at hx
  rcases List.mem_append.mp hx with hx|hx
  ·exact h3 x hx _ List.mem_cons_self
  ·rw [show S[i]?=some (S.getD i 0) by simp[List.getD_eq_getElem?_getD,hi]]at hx
   simp at hx;rw[hx];simp
 ·intro x hx;rw[drop_getD 0 hi]at hx
  rcases List.mem_cons.mp hx with rfl|hx
  ·exact Int.le_refl _
  ·exact h4 x hx
theorem rank_lt {S:List Int} (hs:S.Pairwise (fun a b=>a≤b)) {i:Nat} (hi:i<S.length) {v:Int} (h:S.getD i 0<v):i+1≤cl S v:=by
 have h1:=(sorted_take hs hi).1;have h2:cl (S.take (i+1)) v=i+1:=by
  rw[cl_all (fun x hx=>by have:=h1 x hx;omega),List.length_take];omega
 have h3:=cl_append (S.take (i+1)) (S.drop (i+1)) v;rw[List.take_append_drop]at h3
 omega
theorem rank_ge {S:List Int} (hs:S.Pairwise (fun a b=>a≤b)) {i:Nat} (hi:i<S.length) {v:Int} (h:v≤S.getD i 0):cl S v≤i:=by
 have h1:=(sorted_take hs hi).2;have h2:cl (S.drop i) v=0:=cl_none (fun x hx=>by have:=h1 x hx;omega);have h3:=cl_append (S.take i) (S.drop i) v;rw[List.take_append_drop]at h3;have h4:=cl_le (S.take i) v;rw[List.length_take]at h4
 omega
theorem rank_iff {S:List Int} (hs:S.Pairwise (fun a b=>a≤b)) {i:Nat} (hi:i<S.length) (v:Int):(cl S v≤i∧i<cl S (v+1))↔S.getD i 0=v:=by
 constructor
 ·rintro ⟨h1,h2⟩
  apply Int.le_antisymm
  ·apply Int.le_of_not_gt;intro h
   have:=rank_ge hs hi (v:=v+1) (by omega)
   omega
  ·apply Int.le_of_not_gt;intro h
   have:=rank_lt hs hi (v:=v) (by omega)
   omega
 ·intro h;exact⟨rank_ge hs hi (by omega),by have:=rank_lt hs hi (v:=v+1) (by omega);omega⟩
def pcs (n:Nat):List Int→Nat→Int
 | [],_=>0
 |x::r,i=>(if 2*i+1<n then -x else if n<2*i+1 then x else 0)+pcs n r (i+1)
def co (g:List Int):Int:=pcs g.length (isort g) 0
def dst (v:Int):List Int→Int
 | []=>0
 |x::r=>(if x≤v then v-x else x-v)+dst v r
theorem dst_perm (v:Int) {a b:List Int} (h:a.Perm b):dst v a=dst v b:=by
  induction h with
  |nil=>rfl
  |cons u _ ih=>simp only[dst,ih]
  |swap x y r=>simp only[dst];omega
  |trans _ _ i1 i2=>rw[i1,i2]
theorem dst_nonneg (v:Int):∀ l:List Int,0≤dst v l
 | []=>by simp[dst]
 |x::r=>by have:=dst_nonneg v r;simp only[dst];split<;>omega
theorem dst_le (v:Int) (hv:0≤v∧v≤10000):∀ {l:List Int},(∀ x∈l,0≤x∧x≤10000)→dst v l≤10000*(l.length:Int)
 | [],_=>by simp[dst]
 |x::r,h=>by
  have:=dst_le v hv (l:=r) (fun y hy=>h y (List.mem_cons_of_mem _ hy));have h2:=h x List.mem_cons_self;simp only[dst,List.length_cons];split<;>omega
theorem pcs_le (n:Nat) (v:Int):∀ (r:List Int) (i:Nat),i+r.length=n→pcs n r i≤dst v r+v*(min i (n-i):Nat)
 | [],i,h=>by
  simp only[List.length_nil]at h;rw[show min i (n-i)=0 by omega];simp[pcs,dst]
 | x::r,i,h=>by
  simp only[List.length_cons]at h;have ih:=pcs_le n v r (i+1) (by omega);simp only[pcs,dst]
  by_cases h1:2*i+1<n
  ·rw [if_pos h1];rw[show min (i+1) (n-(i+1))=i+1 by omega]at ih;rw[show min i (n-i)=i by omega];have e:v*((i+1:Nat):Int)=v*(i:Int)+v:=by rw[Int.natCast_add,Int.mul_add];simp
   split<;>omega
  ·by_cases h2:n<2*i+1
   ·rw [if_neg h1,if_pos h2];rw[show min (i+1) (n-(i+1))=n-i-1 by omega]at ih;rw[show min i (n-i)=n-i-1+1 by omega];have e:v*((n-i-1+1:Nat):Int)=v*((n-i-1:Nat):Int)+v:=by rw[Int.natCast_add,Int.mul_add];simp
    split<;>omega
   ·rw [if_neg h1,if_neg h2];rw[show min (i+1) (n-(i+1))=i by omega]at ih;rw[show min i (n-i)=i by omega]
    split<;>omega
theorem pcs_eq (n:Nat) (v:Int):∀ (r:List Int) (i:Nat),i+r.length=n→(∀ q,(hq:q<r.length)→(2*(i+q)+1<n→r[q]≤v)∧(n<2*(i+q)+1→v≤r[q])∧(2*(i+q)+1=n→r[q]=v))→pcs n r i=dst v r+v*(min i (n-i):Nat)
 | [],i,h,_=>by
  simp only[List.length_nil]at h;rw[show min i (n-i)=0 by omega];simp[pcs,dst]
 | x::r,i,h,hb=>by
  simp only[List.length_cons]at h;have ih:=pcs_eq n v r (i+1) (by omega) (fun q hq=>by have:=hb (q+1) (by simpa using hq);simp only[List.getElem_cons_succ]at this;rw[show i+1+q=i+(q+1) by omega];exact this);obtain⟨b1,b2,b3⟩:=hb 0 (by simp);simp only[List.getElem_cons_zero,Nat.add_zero]at b1 b2 b3;simp only[pcs,dst]
  by_cases h1:2*i+1<n
  ·rw [if_pos h1];rw[show min (i+1) (n-(i+1))=i+1 by omega]at ih;rw[show min i (n-i)=i by omega];have e:v*((i+1:Nat):Int)=v*(i:Int)+v:=by rw[Int.natCast_add,Int.mul_add];simp
   have:=b1 h1;rw[if_pos this];omega
  ·by_cases h2:n<2*i+1
   ·rw [if_neg h1,if_pos h2];rw[show min (i+1) (n-(i+1))=n-i-1 by omega]at ih;rw[show min i (n-i)=n-i-1+1 by omega];have e:v*((n-i-1+1:Nat):Int)=v*((n-i-1:Nat):Int)+v:=by rw[Int.natCast_add,Int.mul_add];simp
    have:=b2 h2
    split<;>omega
   ·rw [if_neg h1,if_neg h2];rw[show min (i+1) (n-(i+1))=i by omega]at ih;rw[show min i (n-i)=i by omega];have:=b3 (by omega);subst this
    simp;omega
theorem co_le (g:List Int) (v:Int):co g≤dst v g:=by
 have:=pcs_le g.length v (isort g) 0 (by rw[isort_length];omega);rw[dst_perm v (isort_perm g)]at this;unfold co
 simpa using this
theorem co_mid (g:List Int) (h:0<g.length):co g=dst (mid g) g:=by
 have hi:(g.length-1) / 2<(isort g).length:=by rw[isort_length];omega
 have hs:=isort_sorted g;have hsl:=isort_length g;have key:∀ p q,(hp:p<(isort g).length)→(hq:q<(isort g).length)→p≤q→(isort g)[p]≤(isort g)[q]:=by
  intro p q hp hq hpq
  rcases Nat.lt_or_ge p q with h1|h1
  ·exact List.pairwise_iff_getElem.mp hs p q hp hq h1
  ·obtain rfl:p=q:=by omega
   exact Int.le_refl _
 have em:mid g=(isort g)[(g.length-1) / 2]:=by unfold mid;simp[List.getD_eq_getElem?_getD,hi]
 have:=pcs_eq g.length (mid g) (isort g) 0 (by rw[isort_length];omega) (fun q hq=>by
  rw[em];refine⟨fun h1=>key _ _ hq hi (by omega),fun h1=>key _ _ hi hq (by omega),fun h1=>?_⟩
  congr 1;omega)
 rw[dst_perm _ (isort_perm g)]at this;unfold co
 simpa using this
theorem mid_mem (g:List Int) (h:0<g.length):mid g∈g:=by
 have hi:(g.length-1) / 2<(isort g).length:=by rw[isort_length];omega
 have:mid g∈isort g:=by unfold mid;simp[List.getD_eq_getElem?_getD,hi]
 exact(isort_perm g).mem_iff.mp this
theorem co_in (g:List Int) (hb:∀ x∈g,0≤x∧x≤10000):0≤co g∧co g≤10000*(g.length:Int):=by
 by_cases h:g.length=0
 ·rw [List.length_eq_zero_iff]at h;subst h;simp[co,pcs,isort]
 ·rw [co_mid g (by omega)];exact⟨dst_nonneg _ _,dst_le _ (hb _ (mid_mem g (by omega))) hb⟩
theorem cost_l0 (S:List Int) (hb:∀ x∈S,0≤x∧x≤10000) (hl:S.length≤24):∀ (n i:Nat) (a:Int),i+n=S.length→ -(10000*(i:Int))≤a→a≤10000*(i:Int)→Ev (fun k=>L_profile_cost.l0 k S a (S.length:Int) (i:Int)) (a+pcs S.length (S.drop i) i)
 |0,i,a,h,_,_=>by
  refine Ev.succ ?_;simp only[L_profile_cost.l0,show ¬ (i:Int)<(S.length:Int) by omega,if_false];rw[show S.drop i=[]from List.drop_eq_nil_of_le (by omega)];simp only[pcs,Int.add_zero];exact Ev.some
 | n+1,i,a,h,ha1,ha2=>by
  refine Ev.succ ?_;have hi:i<S.length:=by omega
  have hm:rd S (i:Int)∈S:=by rw[rd_nat];simp[List.getD_eq_getElem?_getD,hi]
  have hx:=hb _ hm;rw[drop_rd hi];simp only[L_profile_cost.l0,show(i:Int)<(S.length:Int) by omega,show(0:Int)≤(i:Int) by omega,if_true,up (show i<4611686018427387904 by omega)];rw[w64 (n:=2*(i:Int)) (by omega),w64 (n:=(S.length:Int)-1) (by omega),w64 (n:=a-rd S (i:Int)) (by omega),w64 (n:=a+rd S (i:Int)) (by omega)];simp only[pcs]
  by_cases h1:2*i+1<S.length
  ·simp only[h1,show 2*(i:Int)<(S.length:Int)-1 by omega,if_true];rw[show a+(-rd S (i:Int)+pcs S.length (S.drop (i+1)) (i+1))=a-rd S (i:Int)+pcs S.length (S.drop (i+1)) (i+1) by omega];exact cost_l0 S hb hl n (i+1) _ (by omega) (by omega) (by omega)
  ·by_cases h2:S.length<2*i+1
   ·simp only[h1,h2,show ¬ 2*(i:Int)<(S.length:Int)-1 by omega,show 2*(i:Int)>(S.length:Int)-1 by omega,if_true,if_false];rw[show a+(rd S (i:Int)+pcs S.length (S.drop (i+1)) (i+1))=a+rd S (i:Int)+pcs S.length (S.drop (i+1)) (i+1) by omega];exact cost_l0 S hb hl n (i+1) _ (by omega) (by omega) (by omega)
   ·simp only[h1,h2,show ¬ 2*(i:Int)<(S.length:Int)-1 by omega,show ¬ 2*(i:Int)>(S.length:Int)-1 by omega,if_false,Int.zero_add];exact cost_l0 S hb hl n (i+1) _ (by omega) (by omega) (by omega)
theorem cost_ev (g:List Int) (hb:∀ x∈g,0≤x∧x≤10000) (hl:g.length≤24):Ev (fun k=>L_profile_cost.f k g) (co g):=by
 unfold L_profile_cost.f L_sorted_prof.f slices_Sort_int_int.f;simp only[show g.length<17592186044416 by omega,show g.length<4611686018427387904 by omega,if_true,Option.bind_some];have:=cost_l0 (isort g) (fun x hx=>hb x ((isort_perm g).mem_iff.mp hx)) (by rw[isort_length];exact hl) (isort g).length 0 0 (by omega) (by omega) (by omega);rw[Int.zero_add,List.drop_zero]at this;unfold co;rw[isort_length]at this ⊢;exact this
def seg (l:List Int) (i j:Nat):List Int:=(l.take j).drop i
theorem seg_length (l:List Int) (i j:Nat) (h:j≤l.length):(seg l i j).length=j-i:=by unfold seg;simp;omega
theorem seg_mem {l:List Int} {i j:Nat} {x:Int} (h:x∈seg l i j):x∈l:=List.mem_of_mem_take (List.mem_of_mem_drop h)
theorem seg_get {l:List Int} {i j q:Nat} (h:j≤l.length) (hq:q<(seg l i j).length):(seg l i j)[q]=rd l ((i+q:Nat):Int):=by
 have hq2:=hq;rw[seg_length l i j h]at hq2;rw[rd_nat];have e:(seg l i j)[q]?=l[i+q]? :=by
  unfold seg;rw[List.getElem?_drop,List.getElem?_take,if_pos (by omega)]
 rw[List.getElem?_eq_getElem hq]at e;rw[List.getD_eq_getElem?_getD, ←e];rfl
theorem co_seg_in {l:List Int} (hb:∀ x∈l,0≤x∧x≤10000) (hl:l.length≤24) (a b:Nat) (hbl:b≤l.length):0≤co (seg l a b)∧co (seg l a b)≤240000:=by
 have h1:=co_in (seg l a b) (fun x hx=>hb x (seg_mem hx));have h2:=seg_length l a b hbl
 omega
def nE (a:Int):Int:=if 0≤a∧a≤1000000 then 0 else 2
def two (a b:Int):Int:=if a=0 then b else a
theorem fnz_two (a b:Int):fnz [a,b]=two a b:=by
 unfold two fnz fnz
 split
 ·split<;>rename_i h
  ·rw [h];rfl
  ·rfl
 ·rfl
theorem openDivision_ev (l:List Int) (a:Int) (hl:l.length<4611686018427387904):Ev (fun k=>L_openDivision.f k l a) (l,two (pE l).2 (nE a)):=by
 unfold L_openDivision.f;refine Ev.bind (open_ev l hl) ?_;simp only[within_eq,unless_eq,Option.bind_some,decide_eq_true_eq];rw[← fnz_two];exact Ev.bind (first_ev _ (by simp)) Ev.some
theorem two_ok {l:List Int} {a:Int} (h:two (pE l).2 (nE a)=0):(pE l).2=0∧(0<l.length∧l.length≤24∧∀ x∈l,0≤x∧x≤10000)∧0≤a∧a≤1000000:=by
 have h1:(pE l).2=0:=by unfold two at h;split at h<;>assumption
 refine⟨h1,pE_ok h1,?_⟩;unfold two nE at h;rw[if_pos h1]at h
 split at h<;>omega
def hd:List Nat→Nat→Nat
 | [],e=>e
 |x::_,_=>x
def cst (l:List Int) (pen:Int):List Nat→Nat→Int
 | [],_=>0
 |x::r,e=>co (seg l x (hd r e))+pen+cst l pen r e
def asc:List Nat→Nat→Prop
 | [],_=>True
 |x::r,e=>x<hd r e∧asc r e
def Dv (i e:Nat) (b:List Nat):Prop:=hd b e=i∧asc b e
theorem hd_append (r:List Nat) (f e:Nat):hd (r++ [f]) e=hd r f:=by cases r<;>rfl
theorem cst_append (l:List Int) (pen:Int) (f e:Nat):∀ b:List Nat,cst l pen (b++ [f]) e=cst l pen b f+co (seg l f e)+pen
 | []=>by simp[cst,hd]
 |x::r=>by
  simp only[List.cons_append,cst,hd_append,cst_append l pen f e r];omega
theorem asc_append (f e:Nat):∀ b:List Nat,asc (b++ [f]) e↔asc b f∧f<e
 | []=>by simp[asc,hd]
 |x::r=>by
  simp only[List.cons_append,asc,hd_append,asc_append f e r,and_assoc]
theorem asc_hd:∀ {b:List Nat} {e:Nat},asc b e→hd b e≤e
 | [],_,_=>Nat.le_refl _
 |x::r,e,h=>by have:=asc_hd h.2;have:=h.1;show x≤e;omega
theorem asc_len:∀ {b:List Nat} {e:Nat},asc b e→b.length+hd b e≤e
 | [],_,_=>by simp[hd]
 |x::r,e,h=>by have:=asc_len h.2;have:=h.1;simp only[List.length_cons,hd];omega
theorem Dv_nil {e:Nat} {b:List Nat} (h:Dv e e b):b=[]:=by
 cases b with
 |nil=>rfl
 |cons x r=>
  obtain⟨h1,h2,h3⟩:=h;have:=asc_hd h3;simp only[hd]at h1
  omega
def bt (c:Int) (a:List Nat) (d:Int) (b:List Nat):Prop:=c<d∨c=d∧(a.length<b.length∨a.length=b.length∧a<b)
def be (c:Int) (a:List Nat) (d:Int) (b:List Nat):Prop:=bt c a d b∨c=d∧a=b
theorem be_refl (c:Int) (a:List Nat):be c a c a:= .inr ⟨rfl,rfl⟩
theorem bt_trans {c d e:Int} {x y z:List Nat} (h1:bt c x d y) (h2:bt d y e z):bt c x e z:=by
 unfold bt at*
 rcases h1 with h1|⟨h1,h1'|⟨h1',h1''⟩⟩<;>rcases h2 with h2|⟨h2,h2'|⟨h2',h2''⟩⟩
 ·exact .inl (by omega)
 ·exact .inl (by omega)
 ·exact .inl (by omega)
 ·exact .inl (by omega)
 ·exact .inr ⟨by omega,.inl (by omega)⟩
 ·exact .inr ⟨by omega,.inl (by omega)⟩
 ·exact .inl (by omega)
 ·exact .inr ⟨by omega,.inl (by omega)⟩
 ·exact .inr ⟨by omega,.inr ⟨by omega,List.lt_trans h1'' h2''⟩⟩
theorem be_trans {c d e:Int} {x y z:List Nat} (h1:be c x d y) (h2:be d y e z):be c x e z:=by
 rcases h1 with h1|⟨rfl,rfl⟩
 ·rcases h2 with h2|⟨rfl,rfl⟩
  ·exact .inl (bt_trans h1 h2)
  ·exact .inl h1
 ·exact h2
theorem lt_total:∀ a b:List Nat,a<b∨a=b∨b<a
 | [],[]=> .inr (.inl rfl)
 | [],y::b=> .inl (List.nil_lt_cons _ _)
 |x::a,[]=> .inr (.inr (List.nil_lt_cons _ _))
 | x::a,y::b=>by
  rcases Nat.lt_trichotomy x y with h|h|h
  ·exact .inl (List.cons_lt_cons_iff.mpr (.inl h))
  ·subst h
   rcases lt_total a b with h|h|h
   ·exact .inl (List.cons_lt_cons_iff.mpr (.inr ⟨rfl,h⟩))
   ·exact .inr (.inl (by rw[h]))
   ·exact .inr (.inr (List.cons_lt_cons_iff.mpr (.inr ⟨rfl,h⟩)))
  ·exact .inr (.inr (List.cons_lt_cons_iff.mpr (.inl h)))
theorem be_total (c d:Int) (x y:List Nat):be c x d y∨bt d y c x:=by
 unfold be bt
 rcases Int.lt_trichotomy c d with h|h|h
 ·exact .inl (.inl (.inl h))
 ·rcases Nat.lt_trichotomy x.length y.length with h2|h2|h2
  ·exact .inl (.inl (.inr ⟨h,.inl h2⟩))
  ·rcases lt_total x y with h3|h3|h3
   ·exact .inl (.inl (.inr ⟨h,.inr ⟨h2,h3⟩⟩))
   ·exact .inl (.inr ⟨h,h3⟩)
   ·exact .inr (.inr ⟨h.symm,.inr ⟨h2.symm,h3⟩⟩)
  ·exact .inr (.inr ⟨h.symm,.inl h2⟩)
 ·exact .inr (.inl h)
theorem lt_append (f:Nat):∀ {a b:List Nat},a.length=b.length→a<b→a++ [f]<b++ [f]
 | [],[],_,h=>absurd h (List.lt_irrefl _)
 | [],y::b,h,_=>by simp at h
 |x::a,[],h,_=>by simp at h
 |x::a,y::b,h,hl=>by
  rw[List.cons_append,List.cons_append,List.cons_lt_cons_iff]
  rcases List.cons_lt_cons_iff.mp hl with h1|⟨h1,h2⟩
  ·exact .inl h1
  ·exact .inr ⟨h1,lt_append f (by simpa using h) h2⟩
theorem be_append {c d:Int} {a b:List Nat} (f:Nat) (k:Int) (h:be c a d b):be (c+k) (a++ [f]) (d+k) (b++ [f]):=by
 rcases h with h|⟨rfl,rfl⟩
 ·refine .inl ?_;unfold bt at *;simp only[List.length_append,List.length_cons,List.length_nil]
  rcases h with h|⟨h,h2|⟨h2,h3⟩⟩
  ·exact .inl (by omega)
  ·exact .inr ⟨by omega,.inl (by omega)⟩
  ·exact .inr ⟨by omega,.inr ⟨by omega,lt_append f h2 h3⟩⟩
 ·exact be_refl _ _
def Best (l:List Int) (pen:Int) (i e:Nat) (c:Int) (b:List Nat):Prop:=Dv i e b∧c=cst l pen b e∧∀ a,Dv i e a→be c b (cst l pen a e) a
theorem Best_nil (l:List Int) (pen:Int) (e:Nat):Best l pen e e 0 []:=
 ⟨⟨rfl,trivial⟩,rfl,fun a ha=>by rw[Dv_nil ha];exact be_refl _ _⟩
theorem Best_last {l:List Int} {pen:Int} {t:Nat} (ht:0<t) (C:Nat→Int) (B:Nat→List Nat) (hB:∀ f,f<t→Best l pen 0 f (C f) (B f)) (c:Int) (b:List Nat)
  (hf:∃ f,f<t∧c=C f+co (seg l f t)+pen∧b=B f++ [f]) (hmin:∀ f,f<t→be c b (C f+co (seg l f t)+pen) (B f++ [f])):Best l pen 0 t c b:=by
 obtain⟨f,h1,rfl,rfl⟩:=hf;obtain⟨⟨d1,d2⟩,d3,d4⟩:=hB f h1;refine⟨⟨by rw[hd_append];exact d1,(asc_append f t _).mpr ⟨d2,h1⟩⟩,by rw[cst_append,d3],fun a ha=>?_⟩;obtain⟨a1,a2⟩:=ha
 rcases List.eq_nil_or_concat a with rfl|⟨a',g,rfl⟩
 ·simp only[hd]at a1;omega
 ·rw [List.concat_eq_append]at *;rw[hd_append]at a1;obtain⟨a3,a4⟩:=(asc_append g t a').mp a2;refine be_trans (hmin g a4) ?_;rw[cst_append];have:=be_append g (co (seg l g t)+pen) ((hB g a4).2.2 a' ⟨a1,a3⟩);rw[← Int.add_assoc, ←Int.add_assoc]at this;exact this

def cmpV:List Int→List Int→Int
 | [],[]=>0
 | [],_::_=> -1
 |_::_,[]=>1
 |x::a,y::b=>if x<y then -1 else if x>y then 1 else cmpV a b
theorem Compare_eq (a b:Int):cmp_Compare_int.f a b=some (if a<b then -1 else if a>b then 1 else 0):=by
 unfold cmp_Compare_int.f cmp_isNaN_int.f;simp only[bne_self_eq_false,Option.bind_some,Bool.false_eq_true,if_false]
 split
 ·rfl
 ·split<;>rfl
theorem sCompare_l0 (a b:List Int) (ha:a.length<4611686018427387904):∀ (n i:Nat),i+n=a.length→i≤b.length→Ev (fun k=>slices_Compare_int_int.l0 k a b a (a.length:Int) (i:Int)) (cmpV (a.drop i) (b.drop i))
 |0,i,h,hb=>by
  refine Ev.succ ?_;simp only[slices_Compare_int_int.l0,show ¬ (i:Int)<(a.length:Int) by omega,if_false];rw[show a.drop i=[]from List.drop_eq_nil_of_le (by omega)]
  by_cases h1:a.length<b.length
  ·rw [drop_getD 0 (show i<b.length by omega)];simp only[show (a.length:Int)<(b.length:Int) by omega,if_true,cmpV];exact Ev.some
  ·rw [show b.drop i=[]from List.drop_eq_nil_of_le (by omega)];simp only[show ¬ (a.length:Int)<(b.length:Int) by omega,if_false,cmpV];exact Ev.some
 | n+1,i,h,hb=>by
  refine Ev.succ ?_;rw[drop_rd (show i<a.length by omega)];simp only[slices_Compare_int_int.l0,show(i:Int)<(a.length:Int) by omega,show(0:Int)≤(i:Int) by omega,if_true,Compare_eq,Option.bind_some,up (show i<4611686018427387904 by omega)]
  by_cases h1:i<b.length
  ·rw [drop_rd h1];simp only[show ¬ (i:Int)≥(b.length:Int) by omega,show(i:Int)<(b.length:Int) by omega,if_true,if_false,cmpV]
   by_cases h2:rd a (i:Int)<rd b (i:Int)
   ·simp only[h2,if_true,show ¬ (-1:Int)=0 by omega,if_false];exact Ev.some
   ·by_cases h3:rd a (i:Int)>rd b (i:Int)
    ·simp only[h2,h3,if_true,if_false,show ¬ (1:Int)=0 by omega];exact Ev.some
    ·simp only[h2,h3,if_true,if_false];exact sCompare_l0 a b ha n (i+1) (by omega) (by omega)
  ·rw [show b.drop i=[]from List.drop_eq_nil_of_le (by omega)];simp only[show (i:Int)≥(b.length:Int) by omega,if_true,cmpV];exact Ev.some
theorem sCompare_ev (a b:List Int) (ha:a.length<4611686018427387904):Ev (fun k=>slices_Compare_int_int.f k a b) (cmpV a b):=by
 have:=sCompare_l0 a b ha a.length 0 (by omega) (by omega);exact this
theorem Or_l0 (l:List Int) (hl:l.length<4611686018427387904):∀ (n i:Nat),i+n=l.length→Ev (fun k=>cmp_Or_int.l0 k 0 l (l.length:Int) (i:Int)) (fnz (l.drop i))
 |0,i,h=>by
  refine Ev.succ ?_;simp only[cmp_Or_int.l0,show ¬ (i:Int)<(l.length:Int) by omega,if_false];rw[show l.drop i=[]from List.drop_eq_nil_of_le (by omega)];exact Ev.some
 |n+1,i,h=>by
  refine Ev.succ ?_;simp only[cmp_Or_int.l0,show(i:Int)<(l.length:Int) by omega,show(0:Int)≤(i:Int) by omega,if_true,up (show i<4611686018427387904 by omega)];rw[drop_rd (show i<l.length by omega)];unfold fnz
  by_cases e:rd l (i:Int)=0
  ·simp only[e,if_true];exact Or_l0 l hl n (i+1) (by omega)
  ·simp only[e,if_false];exact Ev.some
theorem Or_ev (l:List Int) (hl:l.length<4611686018427387904):Ev (fun k=>cmp_Or_int.f k l) (fnz l):=Or_l0 l hl l.length 0 (by omega)
def zs (b:List Nat):List Int:=b.map (fun n:Nat=>(n:Int))
theorem zs_length (b:List Nat):(zs b).length=b.length:=by unfold zs;simp
theorem zs_append (a b:List Nat):zs (a++b)=zs a++zs b:=by unfold zs;simp
theorem cmpV_lt:∀ a b:List Nat,(cmpV (zs a) (zs b)<0↔a<b)∧(cmpV (zs a) (zs b)=0↔a=b)
 | [],[]=>⟨by simp[zs,cmpV],by simp[zs,cmpV]⟩
 | [],y::b=>⟨by simp[zs,cmpV],by simp[zs,cmpV]⟩
 |x::a,[]=>⟨by simp[zs,cmpV],by simp[zs,cmpV]⟩
 | x::a,y::b=>by
  obtain⟨h1,h2⟩:=cmpV_lt a b;have e:cmpV (zs (x::a)) (zs (y::b))=if(x:Int)<(y:Int)then -1 else if(x:Int)>(y:Int)then 1 else cmpV (zs a) (zs b):=rfl;rw[e,List.cons_lt_cons_iff]
  by_cases c1:x<y
  ·rw [if_pos (by omega)];refine⟨⟨fun _=> .inl c1,fun _=>by omega⟩,⟨fun h=>by omega,fun h=>?_⟩⟩
   injection h with h;omega
  ·by_cases c2:x>y
   ·rw [if_neg (by omega),if_pos (by omega)];refine⟨⟨fun h=>by omega,fun h=>by omega⟩,⟨fun h=>by omega,fun h=>?_⟩⟩
    injection h with h;omega
   ·rw [if_neg (by omega),if_neg (by omega)];obtain rfl:x=y:=by omega
    refine⟨⟨fun h=> .inr ⟨rfl,h1.mp h⟩,fun h=>?_⟩,⟨fun h=>by rw[h2.mp h],fun h=>h2.mpr (by injection h)⟩⟩
    rcases h with h|⟨_,h⟩
    ·omega
    ·exact h1.mpr h
theorem compare_ev (c d:Int) (a b:List Nat) (ha:a.length<4611686018427387904):∃ r:Int,(r<0↔bt c a d b)∧Ev (fun k=>L_division_compare.f k c (zs a) d (zs b)) r:=by
 refine⟨fnz [if c<d then -1 else if c>d then 1 else 0,if((zs a).length:Int)<((zs b).length:Int)then -1 else if((zs a).length:Int)>((zs b).length:Int)then 1 else 0,cmpV (zs a) (zs b)],?_,?_⟩
 ·rw [zs_length,zs_length];have h3:=(cmpV_lt a b).1;unfold bt
  rcases Int.lt_trichotomy c d with h|h|h
  ·rw [if_pos h];simp[fnz,h]
  ·rw [if_neg (by omega),if_neg (by omega)]
   rcases Nat.lt_trichotomy a.length b.length with h2|h2|h2
   ·rw [if_pos (by omega)];simp[fnz,h,h2]
   ·rw [if_neg (by omega),if_neg (by omega)];rw[show fnz [0,0,cmpV (zs a) (zs b)]=cmpV (zs a) (zs b) by simp only[fnz,if_true];split<;>rename_i hh;exact hh.symm;rfl];rw[h3]
    constructor
    ·intro hlt;exact .inr ⟨h,.inr ⟨h2,hlt⟩⟩
    ·rintro (hh|⟨_,hh|⟨_,hh⟩⟩)
     ·omega
     ·omega
     ·exact hh
   ·rw [if_neg (by omega),if_pos (by omega)];simp only[fnz,if_true]
    constructor
    ·intro hlt;simp at hlt
    ·rintro (hh|⟨_,hh|⟨hh,_⟩⟩)<;>omega
  ·rw [if_neg (by omega),if_pos (by omega)];simp only[fnz]
   constructor
   ·intro hlt;simp at hlt
   ·rintro (hh|⟨hh,_⟩)<;>omega
 ·unfold L_division_compare.f;simp only[Compare_eq,Option.bind_some];refine Ev.bind (sCompare_ev (zs a) (zs b) (by rw[zs_length];exact ha)) ?_;exact Ev.bind (Or_ev _ (by simp)) Ev.some
theorem co_nonneg {l:List Int} (hb:∀ x∈l,0≤x∧x≤10000) (i j:Nat):0≤co (seg l i j):=(co_in _ (fun x hx=>hb x (seg_mem hx))).1
theorem cst_nonneg {l:List Int} {pen:Int} (hb:∀ x∈l,0≤x∧x≤10000) (hp:0≤pen) (e:Nat):∀ b:List Nat,0≤cst l pen b e
 | []=>by simp[cst]
 |x::r=>by
  have:=cst_nonneg hb hp e r;have:=co_nonneg hb x (hd r e);simp only[cst];omega
theorem Best_in {l:List Int} {pen:Int} (hb:∀ x∈l,0≤x∧x≤10000) (hl:l.length≤24) (hp:0≤pen∧pen≤1000007) {f:Nat} (hf:f≤l.length) {c:Int} {b:List Nat} (h:Best l pen 0 f c b):(0≤c∧c≤1240007)∧b.length≤24:=by
 obtain⟨h1,h2,h3⟩:=h;refine⟨⟨by rw[h2];exact cst_nonneg hb hp.1 f b,?_⟩,by have:=asc_len h1.2;omega⟩
 by_cases h0:f=0
 ·subst h0;have:=Dv_nil h1;subst this;rw[h2];simp[cst]
 ·have:=h3 [0] ⟨rfl,by simp[asc,hd];omega⟩;have h5:=co_seg_in hb hl 0 f hf;have h6:cst l pen [0] f=co (seg l 0 f)+pen:=by simp[cst,hd]
  rw[h6]at this;unfold be bt at this
  rcases this with (h|⟨h,_⟩)|⟨h,_⟩<;>omega
theorem rd132_getD (l:List S58) (i:Nat):rd_T58 l (i:Int)=l.getD i z58:=by unfold rd_T58;simp
def OK (l:List Int) (pen:Int) (o:List S58) (t:Nat):Prop:=o.length=t∧∃ B:Nat→List Nat,∀ f,f<t→(rd_T58 o (f:Int)).f1=zs (B f)∧Best l pen 0 f (rd_T58 o (f:Int)).f0 (B f)
theorem OK_snoc {l:List Int} {pen:Int} {o:List S58} {t:Nat} (h:OK l pen o t) {c:Int} {b:List Nat} (hB:Best l pen 0 t c b):OK l pen (o++ [⟨c,zs b⟩]) (t+1):=by
 obtain⟨h1,B,h2⟩:=h;refine⟨by simp[h1],fun f=>if f=t then b else B f,fun f hf=>?_⟩
 by_cases c0:f=t
 ·subst c0;have e:rd_T58 (o++ [⟨c,zs b⟩]) (f:Int)=⟨c,zs b⟩:=by
   rw[rd132_getD,List.getD_eq_getElem?_getD,List.getElem?_append_right (by omega),h1];simp
  rw[e];simp only[if_true];exact⟨trivial,hB⟩
 ·have e:rd_T58 (o++ [⟨c,zs b⟩]) (f:Int)=rd_T58 o (f:Int):=by
   rw[rd132_getD,rd132_getD,List.getD_eq_getElem?_getD,List.getElem?_append_left (by omega),List.getD_eq_getElem?_getD]
  rw[e];simp only[c0,if_false];exact h2 f (by omega)
theorem Divs_l1 (l:List Int) (pen:Int) (hp:0≤pen∧pen≤1000007) (hb:∀ x∈l,0≤x∧x≤10000) (hl:l.length≤24) (o:List S58) (t:Nat) (ht0:0<t) (ht:t≤l.length) (ho:o.length=t) (B:Nat→List Nat) (hB:∀ f,f<t→(rd_T58 o (f:Int)).f1=zs (B f)∧Best l pen 0 f (rd_T58 o (f:Int)).f0 (B f)) (P:List S58→Prop)
  (hR:∀ c b,Best l pen 0 t c b→∃ r,P r∧Ev (fun k=>L_profile_divisions.l0 k l pen (o++ [⟨c,zs b⟩]) ((t+1:Nat):Int)) r):∀ (n i:Nat) (c:Int) (b:List Nat),i+n=t→0<i→
  (∃ f,f<i∧c=(rd_T58 o (f:Int)).f0+co (seg l f t)+pen∧b=B f++ [f])→(∀ f,f<i→be c b ((rd_T58 o (f:Int)).f0+co (seg l f t)+pen) (B f++ [f]))→
  ∃ r,P r∧Ev (fun k=>L_profile_divisions.l1 k l pen o (t:Int) (o.length:Int) (i:Int) c (zs b)) r
 |0,i,c,b,h,h0,hf,hm=>by
  obtain rfl:i=t:=by omega
  obtain⟨r,h1,h2⟩:=hR c b (Best_last ht0 (fun f=>(rd_T58 o (f:Int)).f0) B (fun f hf=>(hB f hf).2) c b hf hm);refine⟨r,h1,Ev.succ ?_⟩;simp only[L_profile_divisions.l1,show ¬ (i:Int)<(o.length:Int) by omega,if_false,Option.bind_some,List.length_cons,List.length_nil,show o.length+(0+1)<4398046511104 by omega,if_true,up (show i<4611686018427387904 by omega)];exact h2
 | n +1,i,c,b,h,h0,hf,hm=>by
  have hi:i<t:=by omega
  obtain⟨e1,hBi⟩:=hB i hi;obtain⟨hC,hbl⟩:=Best_in hb hl hp (by omega) hBi;have h2:=co_seg_in hb hl i t ht;have e3:(zs (B i)++ [(i:Int)])=zs (B i++ [i]):=by rw[zs_append];rfl
  have hlen:b.length<4611686018427387904∧(B i++ [i]).length<4611686018427387904:=by
   obtain⟨f,f1,_,f3⟩:=hf;have:=(Best_in hb hl hp (by omega) (hB f (by omega)).2).2;rw[f3];simp only[List.length_append,List.length_cons,List.length_nil];omega
  obtain⟨r,hr,hE⟩:=compare_ev ((rd_T58 o (i:Int)).f0+co (seg l i t)+pen) c (B i++ [i]) b hlen.2;have ih:=fun c b=>Divs_l1 l pen hp hb hl o t ht0 ht ho B hB P hR n (i+1) c b (by omega) (by omega);have hstep:∀ R,Ev (fun k=>if r<0 then L_profile_divisions.l1 k l pen o (t:Int) (o.length:Int) ((i+1:Nat):Int) ((rd_T58 o (i:Int)).f0+co (seg l i t)+pen) (zs (B i++ [i]))else L_profile_divisions.l1 k l pen o (t:Int) (o.length:Int) ((i+1:Nat):Int) c (zs b)) R→Ev (fun k=>L_profile_divisions.l1 k l pen o (t:Int) (o.length:Int) (i:Int) c (zs b)) R:=by
   intro R hR';refine Ev.succ ?_;simp only[L_profile_divisions.l1,show(i:Int)<(o.length:Int) by omega,show(0:Int)≤(i:Int) by omega,show(i:Int)≤(t:Int) by omega,show(t:Int)≤(l.length:Int) by omega,if_true,Int.toNat_natCast,Option.bind_some,e1,zs_length,List.length_cons,List.length_nil,show(B i).length+(0+1)<17592186044416 by omega,show ¬ (i:Int)=0 by omega,if_false,up (show i<4611686018427387904 by omega)];refine Ev.bind (cost_ev (seg l i t) (fun x hx=>hb x (seg_mem hx)) (by rw[seg_length _ _ _ ht];omega)) ?_;rw[w64 (n:=(rd_T58 o (i:Int)).f0+co (seg l i t)) (by omega),w64 (n:=(rd_T58 o (i:Int)).f0+co (seg l i t)+pen) (by omega),e3];exact Ev.bind hE hR'
  by_cases hlt:r<0
  ·have hbt:=hr.mp hlt;obtain⟨R,R1,R2⟩:=ih ((rd_T58 o (i:Int)).f0+co (seg l i t)+pen) (B i++ [i]) ⟨i,by omega,rfl,rfl⟩ (fun f hf'=>by
    by_cases c0:f=i
    ·subst c0;exact be_refl _ _
    ·exact be_trans (.inl hbt) (hm f (by omega)))
   refine⟨R,R1,hstep R ?_⟩;simp only[hlt,if_true];exact R2
  ·obtain ⟨R,R1,R2⟩:=ih c b (by obtain⟨f,f1,f2⟩:=hf;exact⟨f,by omega,f2⟩) (fun f hf'=>by
    by_cases c0:f=i
    ·subst c0
     rcases be_total c ((rd_T58 o (f:Int)).f0+co (seg l f t)+pen) b (B f++ [f])with h'|h'
     ·exact h'
     ·exact absurd (hr.mpr h') hlt
    ·exact hm f (by omega))
   refine⟨R,R1,hstep R ?_⟩;simp only[hlt,if_false];exact R2
theorem Divs_l0 (l:List Int) (pen:Int) (hp:0≤pen∧pen≤1000007) (hb:∀ x∈l,0≤x∧x≤10000) (hl:l.length≤24):∀ (n t:Nat) (o:List S58),t+n=l.length+1→0<t→OK l pen o t→∃ r,OK l pen r (l.length+1)∧Ev (fun k=>L_profile_divisions.l0 k l pen o (t:Int)) r
 |0,t,o,h,h0,hO=>by
  refine⟨o,by rw[show l.length+1=t by omega];exact hO,Ev.succ ?_⟩;simp only[L_profile_divisions.l0,show ¬ (t:Int)≤(l.length:Int) by omega,if_false];exact Ev.some
 |n+1,t,o,h,h0,hO=>by
  obtain⟨ho,B,hB⟩:=hO;have hl1:=Divs_l1 l pen hp hb hl o t h0 (by omega) ho B hB (fun r=>OK l pen r (l.length+1)) (fun c b hcb=>Divs_l0 l pen hp hb hl n (t+1) _ (by omega) (by omega) (OK_snoc ⟨ho,B,hB⟩ hcb)) (t-1) 1 ((rd_T58 o ((0:Nat):Int)).f0+co (seg l 0 t)+pen) (B 0++ [0]) (by omega) (by omega) ⟨0,by omega,rfl,rfl⟩ (fun f hf=>by have e0:f=0:=(by omega);rw[e0];exact be_refl _ _);obtain⟨r,r1,r2⟩:=hl1;refine⟨r,r1,Ev.succ ?_⟩;obtain⟨e1,hBi⟩:=hB 0 (by omega);obtain⟨hC,hbl⟩:=Best_in hb hl hp (by omega) hBi;have h2:=co_seg_in hb hl 0 t (by omega);have e3:(zs (B 0)++ [(0:Int)])=zs (B 0++ [0]):=by rw[zs_append];rfl
  simp only[L_profile_divisions.l0,show(t:Int)≤(l.length:Int) by omega,if_true];refine Ev.succ (f:=fun k=>L_profile_divisions.l1 k l pen o (t:Int) (o.length:Int) 0 0 []) ?_;rw[show ((0:Nat):Int)=0 from rfl]at e1 hC r2;simp only[L_profile_divisions.l1,show(0:Int)<(o.length:Int) by omega,show(0:Int)≤0 by omega,show(0:Int)≤(t:Int) by omega,show(t:Int)≤(l.length:Int) by omega,if_true,Int.toNat_natCast,Option.bind_some,e1,zs_length,List.length_cons,List.length_nil,show(B 0).length+(0+1)<17592186044416 by omega];refine Ev.bind (cost_ev (seg l 0 t) (fun x hx=>hb x (seg_mem hx)) (by rw[seg_length _ _ _ (by omega)];omega)) ?_;rw[w64 (n:=(rd_T58 o 0).f0+co (seg l 0 t)) (by omega),w64 (n:=(rd_T58 o 0).f0+co (seg l 0 t)+pen) (by omega),e3,show wrap64 ((0:Int)+1)=((1:Nat):Int) by rw[w64 (by omega)];rfl];exact r2
theorem divisions_ev (l:List Int) (pen:Int) (hp:0≤pen∧pen≤1000007) (hb:∀ x∈l,0≤x∧x≤10000) (hl:l.length≤24):∃ r,OK l pen r (l.length+1)∧Ev (fun k=>L_profile_divisions.f k l pen) r:=by
 have:=Divs_l0 l pen hp hb hl l.length 1 [⟨0,[]⟩] (by omega) (by omega) ⟨rfl,fun _=> [],fun f hf=>by
  obtain rfl:f=0:=by omega
  exact⟨rfl,Best_nil l pen 0⟩⟩
 exact this
theorem SegmentsOf_ev (l:List Int) (pen:Int) (hl:l.length<4611686018427387904):∃ r:List Int×Int×Int,((two (pE l).2 (nE pen)=0→∃ b,r=(zs b,cst l pen b l.length,0)∧Best l pen 0 l.length (cst l pen b l.length) b)∧(two (pE l).2 (nE pen)≠0→r=([],0,two (pE l).2 (nE pen))))∧Ev (fun k=>L_SegmentsOf.f k l pen) r:=by
 by_cases h:two (pE l).2 (nE pen)=0
 ·obtain ⟨_,⟨h1,h2,h3⟩,h4⟩:=two_ok h;obtain⟨o,⟨ho,B,hB⟩,hE⟩:=divisions_ev l pen (by omega) h3 h2;obtain⟨b1,b2⟩:=hB l.length (by omega);have e:=b2.2.1;rw[e]at b2;refine⟨_,⟨fun _=>⟨B l.length,rfl,b2⟩,fun hn=>absurd h hn⟩,?_⟩;unfold L_SegmentsOf.f;refine Ev.bind (openDivision_ev l pen hl) ?_;simp only[h,if_true];refine Ev.bind hE ?_;simp only[show (0:Int)≤(l.length:Int) by omega,ho,show(l.length:Int)<((l.length+1:Nat):Int) by omega,if_true,b1];rw[e];exact Ev.some
 ·refine ⟨_,⟨fun hn=>absurd hn h,fun _=>rfl⟩,?_⟩;unfold L_SegmentsOf.f;refine Ev.bind (openDivision_ev l pen hl) ?_;simp only[h,if_false];exact Ev.some
theorem chk_loopE {α:Type} (z:α) (p:α→Int) (g:Nat→α→Option Int) (hg:∀ x,Ev (fun k=>g k x) (p x)) (l:List α) (hl:l.length<4611686018427387904) (F:Nat→Int→Option (Int×Int))
  (h0:∀ k i,¬ i<(l.length:Int)→F (k+1) i=some (0,0))
  (h1:∀ k (i:Nat),i<l.length→F (k+1) (i:Int)=(g k (l.getD i z)).bind fun e=>if e=0 then F k (wrap64 ((i:Int)+1))else some ((i:Int),e)):
  ∀ (n i:Nat),i+n=l.length→Ev (fun k=>F k (i:Int)) (chk p (l.drop i) i)
 |0,i,h=>by
  refine Ev.succ ?_;rw[show l.drop i=[]from List.drop_eq_nil_of_le (by omega)];exact Ev.congr (fun k=>(h0 k i (by omega)).symm) Ev.some
 |n+1,i,h=>by
  refine Ev.succ ?_;refine Ev.congr (fun k=>(h1 k i (by omega)).symm) ?_;rw[drop_getD z (show i<l.length by omega)];refine Ev.bind (hg _) ?_;unfold chk
  by_cases e:p (l.getD i z)=0
  ·simp only[e,if_true,up (show i<4611686018427387904 by omega)];exact chk_loopE z p g hg l hl F h0 h1 n (i+1) (by omega)
  ·simp only[e,if_false];exact Ev.some
theorem rd112_drop {l:List S42} {i:Nat} (h:i<l.length):l.drop i=rd_T42 l (i:Int)::l.drop (i+1):=by
 unfold rd_T42;exact drop_getD z42 h
theorem rd112_getD (l:List S42) (i:Nat):rd_T42 l (i:Int)=l.getD i z42:=by unfold rd_T42;simp
def lE (y:S42):Int:=if(0≤y.f0∧y.f0≤20000)∧(0≤y.f1∧y.f1≤20000)∧(0≤y.f2∧y.f2≤8)then(if y.f0<y.f1 then 0 else 9)else 2
def laE (l:List S42):Int×Int:=if 10<l.length then(0,8)else chk lE l 0
theorem fnz_twoC (a b:Int):fnz [a,b]=if a=0 then b else a:=by
 unfold fnz fnz
 split
 ·split<;>rename_i h
  ·rw [h];rfl
  ·rfl
 ·rfl
theorem CheckLayers_1_ev (y:S42):Ev (fun k=>L_CheckLayers_1.f k y.f0 y.f1 y.f2) (lE y):=by
 unfold L_CheckLayers_1.f lE;simp only[isHeight_eq,within_eq,Option.bind_some,unless_eq,decide_eq_true_eq]
 by_cases h1:0≤y.f0∧y.f0≤20000
 ·by_cases h2:0≤y.f1∧y.f1≤20000
  ·by_cases h3:0≤y.f2∧y.f2≤8
   ·by_cases h4:y.f0<y.f1
    ·simp only[h1,h2,h3,h4,and_self,if_true];exact Ev.bind (first_ev _ (by simp)) Ev.some
    ·simp only[h1,h2,h3,h4,and_self,if_true,if_false];exact Ev.bind (first_ev _ (by simp)) Ev.some
   ·simp only[h1,h2,h3,and_self,and_false,if_true,if_false];exact Ev.bind (first_ev _ (by simp)) Ev.some
  ·simp only[h1,h2,and_self,and_false,false_and,if_true,if_false,Bool.false_eq_true];exact Ev.bind (first_ev _ (by simp)) Ev.some
 ·simp only[h1,false_and,if_false,Bool.false_eq_true];exact Ev.bind (first_ev _ (by simp)) Ev.some
theorem CheckLayers_ev (l:List S42) (hl:l.length<4611686018427387904):Ev (fun k=>L_CheckLayers.f k l) (laE l):=by
 unfold L_CheckLayers.f laE
 by_cases h2:10<l.length
 ·simp only[h2,show(l.length:Int)>10 by omega,if_true];exact Ev.some
 ·simp only[h2,show ¬ (l.length:Int)>10 by omega,if_false];refine Ev.bind (a:=chk lE l 0) ?_ Ev.some;refine chk_loopE z42 lE (fun k y=>L_CheckLayers_1.f k y.f0 y.f1 y.f2) CheckLayers_1_ev l hl (fun k i=>api_CloudLayer_CheckLayers_1.l0 k l (l.length:Int) i) (fun k i h=>?_) (fun k i h=>?_) l.length 0 (by omega)
  ·simp only[api_CloudLayer_CheckLayers_1.l0,h,if_false]
  ·simp only[api_CloudLayer_CheckLayers_1.l0,show(i:Int)<(l.length:Int) by omega,show(0:Int)≤(i:Int) by omega,if_true,rd112_getD]
theorem laE_ok {l:List S42} (h:(laE l).2=0):l.length≤10∧∀ y∈l,0≤y.f2∧y.f2≤8:=by
 unfold laE at h
 split at h
 ·exact absurd h (by simp)
 refine⟨by omega,fun y hy=>?_⟩;have:=chk_all h y hy;unfold lE at this
 split at this
 ·rename_i hh;exact hh.2.2
 ·exact absurd this (by decide)

theorem Compare_eqC (a b:Int):cmp_Compare_int.f a b=some (if a<b then -1 else if a>b then 1 else 0):=by
 unfold cmp_Compare_int.f cmp_isNaN_int.f;simp only[bne_self_eq_false,Option.bind_some,Bool.false_eq_true,if_false]
 split
 ·rfl
 ·split<;>rfl
theorem less_eq (a b c d e f:Int):L_CeilingOf_1.f a b c d e f=some (if a<d then -1 else if a>d then 1 else 0):=by
 unfold L_CeilingOf_1.f;rw[Compare_eqC];rfl
def kb (x:List S42) (p:Nat):Int:=(x.getD p z42).f0
def swp (x:List S42) (j:Nat):List S42:=(x.set (j+1) (x.getD j z42)).set j (x.getD (j+1) z42)
theorem swp_length (x:List S42) (j:Nat):(swp x j).length=x.length:=by unfold swp;simp
theorem swp_perm {x:List S42} {j:Nat} (h:j+1<x.length):(swp x j).Perm x:=by
 unfold swp;rw[show x.getD j z42=x[j] by simp[List.getD_eq_getElem?_getD,show j<x.length by omega],show x.getD (j+1) z42=x[j+1] by simp[List.getD_eq_getElem?_getD,h]];exact List.set_set_perm h (by omega)
theorem kb_swp {x:List S42} {j:Nat} (h:j+1<x.length) (p:Nat):kb (swp x j) p=if p=j then kb x (j+1)else if p=j+1 then kb x j else kb x p:=by
 unfold kb swp;simp only[List.getD_eq_getElem?_getD,List.getElem?_set,List.length_set]
 by_cases h1:p=j
 ·subst h1;simp[show p<x.length by omega]
 ·by_cases h2:p=j+1
  ·subst h2;simp[h]
  ·simp [h1,h2,Ne.symm h1,Ne.symm h2]
def srt (x:List S42) (i j:Nat):Prop:=∀ p q,p<q→q≤i→q≠j→kb x p≤kb x q
theorem Ins_l1 (N:Nat) (hN:N<1000) (i:Nat) (hi:i<N) (l:List S42) (P:List S42→Prop)
  (hP:∀ x:List S42,x.length=N→x.Perm l→(∀ p q,p<q→q≤i→kb x p≤kb x q)→∃ r,P r∧Ev (fun k=>api_CloudLayer_CeilingOf_1_107.l0 k x 0 (N:Int) ((i+1:Nat):Int)) r):
  ∀ (j:Nat) (x:List S42),j≤i→x.length=N→x.Perm l→srt x i j→∃ r,P r∧Ev (fun k=>api_CloudLayer_CeilingOf_1_107.l1 k x 0 (N:Int) (i:Int) (j:Int)) r
 |0,x,hj,hx,hp,hs=>by
  obtain⟨r,h1,h2⟩:=hP x hx hp (fun p q a b=>hs p q a b (by omega));refine⟨r,h1,Ev.succ ?_⟩;simp only[api_CloudLayer_CeilingOf_1_107.l1,show ¬ ((0:Nat):Int)>0 by omega,if_false,up (show i<4611686018427387904 by omega)];exact h2
 | j +1,x,hj,hx,hp,hs=>by
  have e1:wrap64 (((j+1:Nat):Int)-1)=(j:Int):=by rw[w64 (by omega)];omega
  have e2:(rd_T42 x ((j+1:Nat):Int)).f0=kb x (j+1):=by rw[rd112_getD];rfl
  have e3:(rd_T42 x (j:Int)).f0=kb x j:=by rw[rd112_getD];rfl
  by_cases hlt:kb x (j+1)<kb x j
  ·have hs':srt (swp x j) i j:=by
    intro p q h1 h2 h3;have a1:=hs p q h1 h2;rw[kb_swp (by omega),kb_swp (by omega)]
    by_cases c1:q=j+1
    ·subst c1;rw[if_neg (show ¬ j+1=j by omega),if_pos rfl]
     by_cases c2:p=j
     ·rw [if_pos c2];omega
     ·rw [if_neg c2,if_neg (by omega)];exact hs p j (by omega) (by omega) (by omega)
    ·rw [if_neg h3,if_neg c1]
     by_cases c2:p=j
     ·rw [if_pos c2];exact hs (j+1) q (by omega) h2 c1
     ·by_cases c3:p=j+1
      ·rw [if_neg c2,if_pos c3];exact hs j q (by omega) h2 c1
      ·rw [if_neg c2,if_neg c3];exact a1 c1
   obtain⟨r,h1,h2⟩:=Ins_l1 N hN i hi l P hP j (swp x j) (by omega) (by rw[swp_length];exact hx) ((swp_perm (by omega)).trans hp) hs';refine⟨r,h1,Ev.succ ?_⟩;simp only[api_CloudLayer_CeilingOf_1_107.l1,show((j+1:Nat):Int)>0 by omega,show(0:Int)≤((j+1:Nat):Int) by omega,show((j+1:Nat):Int)<(x.length:Int) by omega,if_true,e1,show(0:Int)≤(j:Int) by omega,show(j:Int)<(x.length:Int) by omega,less_eq,Option.bind_some,e2,e3,hlt,show(-1:Int)<0 by omega];have e4:((x.set (((j+1:Nat):Int)).toNat (⟨kb x j,(rd_T42 x (j:Int)).f1,(rd_T42 x (j:Int)).f2⟩:S42)).set ((j:Int)).toNat (⟨kb x (j+1),(rd_T42 x ((j+1:Nat):Int)).f1,(rd_T42 x ((j+1:Nat):Int)).f2⟩:S42))=swp x j:=by
    unfold swp kb;rw[Int.toNat_natCast,Int.toNat_natCast,rd112_getD,rd112_getD]
   rw[e4];exact h2
  ·obtain ⟨r,h1,h2⟩:=hP x hx hp (fun p q a b=>by
    by_cases c:q=j+1
    ·subst c
     by_cases c2:p=j
     ·subst c2;omega
     ·have:=hs p j (by omega) (by omega) (by omega);omega
    ·exact hs p q a b c)
   refine⟨r,h1,Ev.succ ?_⟩;have e5:¬ (if kb x (j+1)<kb x j then(-1:Int)else if kb x (j+1)>kb x j then 1 else 0)<0:=by
    rw[if_neg hlt];split<;>omega
   simp only[api_CloudLayer_CeilingOf_1_107.l1,show((j+1:Nat):Int)>0 by omega,show(0:Int)≤((j+1:Nat):Int) by omega,show((j+1:Nat):Int)<(x.length:Int) by omega,if_true,e1,show(0:Int)≤(j:Int) by omega,show(j:Int)<(x.length:Int) by omega,less_eq,Option.bind_some,e2,e3,e5,if_false,up (show i<4611686018427387904 by omega)];exact h2
theorem Ins_l0 (N:Nat) (hN:N<1000) (l:List S42):∀ (n i:Nat) (x:List S42),i+n=N∨N≤i∧n=0→x.length=N→x.Perm l→(∀ p q,p<q→q<i→q<N→kb x p≤kb x q)→
  ∃ r:List S42,(r.Perm l∧∀ p q,p<q→q<N→kb r p≤kb r q)∧Ev (fun k=>api_CloudLayer_CeilingOf_1_107.l0 k x 0 (N:Int) (i:Int)) r
 |0,i,x,h,hx,hp,hs=>by
  refine⟨x,⟨hp,fun p q a b=>hs p q a (by omega) b⟩,Ev.succ ?_⟩;simp only[api_CloudLayer_CeilingOf_1_107.l0,show ¬ (i:Int)<(N:Int) by omega,if_false];exact Ev.some
 | n+1,i,x,h,hx,hp,hs=>by
  obtain⟨r,h1,h2⟩:=Ins_l1 N hN i (by omega) l (fun r=>r.Perm l∧∀ p q,p<q→q<N→kb r p≤kb r q)
   (fun y hy hyp hys=>Ins_l0 N hN l n (i+1) y (by omega) hy hyp (fun p q a b c=>hys p q a (by omega))) i x (Nat.le_refl _) hx hp (fun p q a b c=>hs p q a (by omega) (by omega))
  refine⟨r,h1,Ev.succ ?_⟩;simp only[api_CloudLayer_CeilingOf_1_107.l0,show(i:Int)<(N:Int) by omega,if_true];exact h2
theorem sorted_layers_ev (l:List S42) (hl:l.length≤10):∃ r:List S42,(r.Perm l∧∀ p q,p<q→q<l.length→kb r p≤kb r q)∧Ev (fun k=>L_sorted_layers.f k l) r:=by
 obtain⟨r,h1,h2⟩:=Ins_l0 l.length (by omega) l (l.length-1) 1 l (by omega) rfl (List.Perm.refl _) (fun p q a b c=>by omega);refine⟨r,h1,?_⟩;unfold L_sorted_layers.f api_CloudLayer_CeilingOf_1_109.f api_CloudLayer_CeilingOf_1_108.f;simp only[show l.length<5864062014805 by omega,if_true];refine Ev.bind (a:=r) ?_ Ev.some;refine Ev.succ ?_;simp only[api_CloudLayer_CeilingOf_1_108.l0,show ¬ (20:Int)≤(l.length:Int) by omega,if_false];refine Ev.bind (a:=r) ?_ ?_
 ·unfold api_CloudLayer_CeilingOf_1_107.f;rw[show wrap64 ((0:Int)+1)=((1:Nat):Int) by rw[w64 (by omega)];rfl];exact h2
 ·refine Ev.succ ?_;simp only[api_CloudLayer_CeilingOf_1_108.l1,show ¬ (20:Int)<(l.length:Int) by omega,if_false];exact Ev.some

def W8 (b:Int):List S42→Int
 | []=>0
 |y::r=>(if y.f0≤b then y.f2 else 0)+W8 b r
def s8:List S42→Int
 | []=>0
 |y::r=>y.f2+s8 r
theorem W8_append (b:Int) (x y:List S42):W8 b (x++y)=W8 b x+W8 b y:=by
  induction x with
  |nil=>simp[W8]
  |cons u r ih=>simp only[List.cons_append,W8,ih];omega
theorem s8_append (x y:List S42):s8 (x++y)=s8 x+s8 y:=by
  induction x with
  |nil=>simp[s8]
  |cons u r ih=>simp only[List.cons_append,s8,ih];omega
theorem W8_perm (b:Int) {x y:List S42} (h:x.Perm y):W8 b x=W8 b y:=by
  induction h with
  |nil=>rfl
  |cons u _ ih=>simp only[W8,ih]
  |swap u v r=>simp only[W8];omega
  |trans _ _ i1 i2=>rw[i1,i2]
theorem W8_le (b:Int):∀ {x:List S42},(∀ y∈x,0≤y.f2∧y.f2≤8)→0≤W8 b x∧W8 b x≤s8 x∧s8 x≤8*(x.length:Int)
 | [],_=>by simp[W8,s8]
 |u::r,h=>by
  have h1:=W8_le b (x:=r) (fun y hy=>h y (List.mem_cons_of_mem _ hy));have h2:=h u List.mem_cons_self;simp only[W8,s8,List.length_cons]
  split<;>omega
theorem W8_all (b:Int):∀ {x:List S42},(∀ y∈x,y.f0≤b)→W8 b x=s8 x
 | [],_=>rfl
 |u::r,h=>by
  simp only[W8,s8,W8_all b (x:=r) (fun y hy=>h y (List.mem_cons_of_mem _ hy)),if_pos (h u List.mem_cons_self)]
theorem W8_none (b:Int):∀ {x:List S42},(∀ y∈x,b<y.f0)→W8 b x=0
 | [],_=>rfl
 |u::r,h=>by
  have:=h u List.mem_cons_self;simp only[W8,W8_none b (x:=r) (fun y hy=>h y (List.mem_cons_of_mem _ hy)),if_neg (show ¬ u.f0≤b by omega)];rfl
def IsC (l:List S42) (e b:Int):Prop:=(∃ y∈l,y.f0=b)∧e≤W8 b l∧∀ y∈l,e≤W8 y.f0 l→b≤y.f0
def NoC (l:List S42) (e:Int):Prop:=∀ y∈l,¬ e≤W8 y.f0 l
theorem IsC_uniq {l:List S42} {e b c:Int} (h1:IsC l e b) (h2:IsC l e c):b=c:=by
 obtain⟨⟨y,hy,e1⟩,a1,a2⟩:=h1;obtain⟨⟨z,hz,e2⟩,b1,b2⟩:=h2;have:=a2 z hz (by rw[e2];exact b1);have:=b2 y hy (by rw[e1];exact a1)
 omega
theorem IsC_not {l:List S42} {e b:Int} (h1:IsC l e b) (h2:NoC l e):False:=by
 obtain⟨⟨y,hy,e1⟩,a1,a2⟩:=h1;exact h2 y hy (by rw[e1];exact a1)
theorem Ceil_l0 (T:List S42) (e:Int) (he:1≤e∧e≤8) (hb:∀ y∈T,0≤y.f2∧y.f2≤8) (hl:T.length≤10) (hs:∀ p q,p<q→q<T.length→kb T p≤kb T q):
  ∀ (n i:Nat) (c:Int),i+n=T.length→c=s8 (T.take i)→c<e→∃ r:Int×Int,(r.2=0∧IsC T e r.1∨r=(0,12)∧NoC T e)∧Ev (fun k=>L_CeilingOf.l0 k e c T (T.length:Int) (i:Int)) r
 | 0,i,c,h,hc,hlt=>by
  refine⟨(0,12),.inr ⟨rfl,fun y hy=>?_⟩,Ev.succ ?_⟩
  ·rw [List.take_of_length_le (by omega)]at hc;have:=W8_le y.f0 hb
   omega
  ·simp only[L_CeilingOf.l0,show ¬ (i:Int)<(T.length:Int) by omega,if_false];exact Ev.some
 | n+1,i,c,h,hc,hlt=>by
  have hi:i<T.length:=by omega
  have hm:rd_T42 T (i:Int)∈T:=by
   have:rd_T42 T (i:Int)∈T.drop i:=by rw[rd112_drop hi];exact List.mem_cons_self
   exact List.mem_of_mem_drop this
  have hx:=hb _ hm;have hc0:=W8_le 0 (x:=T.take i) (fun y hy=>hb y (List.mem_of_mem_take hy));have et:T.take (i+1)=T.take i++ [rd_T42 T (i:Int)]:=by
   rw[List.take_add_one,rd112_getD];simp[List.getD_eq_getElem?_getD,hi]
  have hc1:c+(rd_T42 T (i:Int)).f2=s8 (T.take (i+1)):=by
   rw[et,s8_append,hc];simp[s8]
  have hkb:∀ q,q<T.length→(rd_T42 T (q:Int)).f0=kb T q:=fun q _=>by rw[rd112_getD];rfl
  have hmem:∀ y∈T.take (i+1),y.f0≤(rd_T42 T (i:Int)).f0:=by
   intro y hy;obtain⟨p,hp,e1⟩:=List.getElem_of_mem hy;rw[List.length_take]at hp;have hpT:p<T.length:=by omega
   have e2:y.f0=kb T p:=by unfold kb;rw[← e1];simp[List.getD_eq_getElem?_getD,hpT]
   rw[hkb i hi,e2]
   by_cases c:p=i
   ·subst c;exact Int.le_refl _
   ·exact hs p i (by omega) hi
  have hmem2:∀ y∈T.drop i,(rd_T42 T (i:Int)).f0≤y.f0:=by
   intro y hy;obtain⟨p,hp,e1⟩:=List.getElem_of_mem hy;rw[List.length_drop]at hp;have hpT:i+p<T.length:=by omega
   have e2:y.f0=kb T (i+p):=by unfold kb;rw[← e1];simp[List.getD_eq_getElem?_getD,hpT]
   rw[hkb i hi,e2]
   by_cases c:p=0
   ·subst c;exact Int.le_refl _
   ·exact hs i (i+p) (by omega) hpT
  by_cases hge:c+(rd_T42 T (i:Int)).f2≥e
  ·refine ⟨((rd_T42 T (i:Int)).f0,0),.inl ⟨rfl,⟨_,hm,rfl⟩,?_,?_⟩,Ev.succ ?_⟩
   ·have a1:=W8_append (rd_T42 T (i:Int)).f0 (T.take (i+1)) (T.drop (i+1));rw[List.take_append_drop,W8_all _ hmem]at a1;have a2:=W8_le (rd_T42 T (i:Int)).f0 (x:=T.drop (i+1)) (fun y hy=>hb y (List.mem_of_mem_drop hy))
    show e≤W8 (rd_T42 T (i:Int)).f0 T
    omega
   ·intro y hy hW
    apply Int.le_of_not_gt;intro hlt2
    have a1:=W8_append y.f0 (T.take i) (T.drop i);rw[List.take_append_drop,W8_none y.f0 (x:=T.drop i) (fun z hz=>by have:=hmem2 z hz;simp only at hlt2;omega)]at a1;have a2:=W8_le y.f0 (x:=T.take i) (fun y hy=>hb y (List.mem_of_mem_take hy))
    omega
   ·simp only[L_CeilingOf.l0,hi,show(i:Int)<(T.length:Int) by omega,show(0:Int)≤(i:Int) by omega,if_true];rw[w64 (n:=c+(rd_T42 T (i:Int)).f2) (by omega)];simp only[hge,if_true];exact Ev.some
  ·obtain ⟨r,h1,h2⟩:=Ceil_l0 T e he hb hl hs n (i+1) (c+(rd_T42 T (i:Int)).f2) (by omega) hc1 (by omega);refine⟨r,h1,Ev.succ ?_⟩;simp only[L_CeilingOf.l0,show(i:Int)<(T.length:Int) by omega,show(0:Int)≤(i:Int) by omega,if_true];rw[w64 (n:=c+(rd_T42 T (i:Int)).f2) (by omega)];simp only[hge,if_false,up (show i<4611686018427387904 by omega)];exact h2
theorem IsC_perm {a b:List S42} (h:a.Perm b) {e c:Int}:IsC a e c→IsC b e c:=by
 rintro⟨⟨y,hy,e1⟩,a1,a2⟩;refine⟨⟨y,h.mem_iff.mp hy,e1⟩,by rw[← W8_perm c h];exact a1,fun z hz hw=>a2 z (h.mem_iff.mpr hz) (by rw[W8_perm z.f0 h];exact hw)⟩
theorem NoC_perm {a b:List S42} (h:a.Perm b) {e:Int}:NoC a e→NoC b e:=
 fun hn y hy hw=>hn y (h.mem_iff.mpr hy) (by rw[W8_perm y.f0 h];exact hw)
def eE (e:Int):Int:=if 1≤e∧e≤8 then 0 else 2
theorem CeilingOf_ev (l:List S42) (e:Int) (hl:l.length<4611686018427387904):∃ r:Int×Int,(((laE l).2≠0→r=(0,(laE l).2))∧((laE l).2=0→eE e≠0→r=(0,eE e))∧((laE l).2=0→eE e=0→(r.2=0∧IsC l e r.1∨r=(0,12)∧NoC l e)))∧Ev (fun k=>L_CeilingOf.f k l e) r:=by
 have hstart:∀ r,Ev (fun k=>(if fnz [(laE l).2,eE e]=0 then((L_sorted_layers.f k l).bind fun t233=>(L_CeilingOf.l0 k e 0 t233 (t233.length:Int) 0))else(some (0,fnz [(laE l).2,eE e])))) r→Ev (fun k=>L_CeilingOf.f k l e) r:=by
  intro r hr;unfold L_CeilingOf.f;refine Ev.bind (CheckLayers_ev l hl) ?_;simp only[within_eq,unless_eq,Option.bind_some,decide_eq_true_eq];refine Ev.bind (first_ev _ (by simp)) ?_;exact hr
 rw[fnz_twoC]at hstart
 by_cases h1:(laE l).2=0
 ·rw [if_pos h1]at hstart
  by_cases h2:eE e=0
  ·obtain ⟨hl10,hb⟩:=laE_ok h1;have he:1≤e∧e≤8:=by unfold eE at h2;split at h2<;>omega
   obtain⟨T,⟨hp,hs⟩,hT⟩:=sorted_layers_ev l hl10;have hTl:=hp.length_eq;obtain⟨r,hr,hE⟩:=Ceil_l0 T e he (fun y hy=>hb y (hp.mem_iff.mp hy)) (by omega) (fun p q a b=>hs p q a (by omega)) T.length 0 0 (by omega) (by simp[s8]) (by omega);refine⟨r,⟨fun hn=>absurd h1 hn,fun _ hn=>absurd h2 hn,fun _ _=>?_⟩,hstart r ?_⟩
   ·rcases hr with ⟨a1,a2⟩|⟨a1,a2⟩
    ·exact .inl ⟨a1,IsC_perm hp a2⟩
    ·exact .inr ⟨a1,NoC_perm hp a2⟩
   ·simp only[h2,if_true];exact Ev.bind hT hE
  ·refine ⟨(0,eE e),⟨fun hn=>absurd h1 hn,fun _ _=>rfl,fun _ hn=>absurd hn h2⟩,hstart _ ?_⟩;simp only[h2,if_false];exact Ev.some
 ·rw [if_neg h1]at hstart;refine⟨(0,(laE l).2),⟨fun _=>rfl,fun hn=>absurd hn h1,fun hn=>absurd hn h1⟩,hstart _ ?_⟩;simp only[h1,if_false];exact Ev.some
abbrev St:=Option (List S29×S29)
def fl:St→List S29
 |none=> []
 |some (b,r)=>b++ [r]
def stepG (gap:Int) (s:St) (i:Int):St:=
 match s with
 |none=>some ([],⟨i,i⟩)
 |some (b,r)=>if i-r.f1-1≤gap then some (b,⟨r.f0,i⟩)else some (b++ [r],⟨i,i⟩)
def stepM (gap:Int) (s:St) (q:S29):St:=
 match s with
 |none=>some ([],q)
 |some (b,r)=>if q.f0-r.f1-1≤gap then some (b,⟨r.f0,q.f1⟩)else some (b++ [r],q)
def G (p:Int→Bool) (gap:Int):Nat→St
 |0=>none
 |n+1=>if p (n:Int)=true then stepG gap (G p gap n) (n:Int)else G p gap n
def mf (gap:Int) (l:List S29):St:=l.foldl (stepM gap) none
theorem mf_snoc (gap:Int) (l:List S29) (q:S29):mf gap (l++ [q])=stepM gap (mf gap l) q:=by simp[mf,List.foldl_append]
theorem G_last (p:Int→Bool) (gap:Int):∀ (n:Nat) (b:List S29) (r:S29),G p gap n=some (b,r)→r.f1<n∧p r.f1=true∧∀ k:Int,r.f1<k→k<n→p k=false
  |0,b,r,h=>by simp[G]at h
  | n + 1,b,r,h=>by
    unfold G at h
    by_cases c:p (n:Int)=true
    · rw[if_pos c]at h
      cases e:G p gap n with
      |none=>rw[e]at h;simp only[stepG,Option.some.injEq,Prod.mk.injEq]at h;obtain⟨_,rfl⟩:=h;exact⟨by simp;omega,c,fun k h1 h2=>by simp at h1;omega⟩
      | some s=>
        obtain⟨b',r'⟩:=s;rw[e]at h;simp only[stepG]at h
        split at h<;>(simp only[Option.some.injEq,Prod.mk.injEq]at h;obtain⟨_,rfl⟩:=h;exact⟨by simp;omega,c,fun k h1 h2=>by simp at h1;omega⟩)
    · rw[if_neg c]at h;obtain⟨h1,h2,h3⟩:=G_last p gap n b r h;refine⟨by omega,h2,fun k hk hk2=>?_⟩
      by_cases e:k=n
      · subst e;simpa using c
      · exact h3 k hk (by omega)
theorem mf_runs (p:Int→Bool) (gap:Int) (hg:0≤gap):∀ n,mf gap (fl (G p 0 n))=G p gap n
  |0=>rfl
  | n + 1 =>by
    have ih:=mf_runs p gap hg n;unfold G
    by_cases c:p (n:Int)=true
    · rw [if_pos c,if_pos c]
      cases e:G p 0 n with
      | none=>
        rw[e]at ih;simp only[fl,mf,List.foldl_nil]at ih;rw[← ih];rfl
      | some s=>
        obtain⟨b,r⟩:=s;obtain⟨h1,h2,h3⟩:=G_last p 0 n b r e;rw[e]at ih;simp only[fl,mf_snoc]at ih;simp only[stepG]
        by_cases d:(n:Int)-r.f1-1≤0
        · rw[if_pos d];simp only[fl,mf_snoc];rw[← ih];have hn:(n:Int)-r.f1-1≤gap:=by omega
          cases mf gap b with
          |none=>simp only[stepM];rw[if_pos hn]
          | some s=>
            obtain⟨b',r'⟩:=s;simp only[stepM]
            by_cases f:r.f0-r'.f1-1≤gap
            · simp only[f,if_true];rw[if_pos hn]
            · simp only[f,if_false];rw[if_pos hn]
        · rw[if_neg d];have:fl (some (b++ [r],(⟨(n:Int),(n:Int)⟩:S29)))=(b++ [r])++ [(⟨(n:Int),(n:Int)⟩:S29)]:=rfl;rw[this,mf_snoc,mf_snoc,ih]
          cases G p gap n with
          |none=>rfl
          |some s=>rfl
    · rw[if_neg c,if_neg c];exact ih
def cnt (p:Int→Bool):Nat→Int
 |0=>0
 |n+1=>cnt p n+if p (n:Int)=true then 1 else 0
def inn (p:Int→Bool) (gap:Int):Nat→Int→Int→Int→Option (Int×Int)
 |0,_,g,c=>some (g,c)
 |n+1,k,g,c=>if(if p k=true then 0 else g+1)>gap then none else inn p gap n (k+1) (if p k=true then 0 else g+1) (if p k=true then c+1 else c)
theorem inn_add (p:Int→Bool) (gap:Int):∀ (m n:Nat) (k g c g' c':Int),inn p gap m k g c=some (g',c')→inn p gap (m+n) k g c=inn p gap n (k+m) g' c'
 |0,n,k,g,c,g',c',h=>by
  simp only[inn,Option.some.injEq,Prod.mk.injEq]at h;obtain⟨rfl,rfl⟩:=h
  simp
 |m+1,n,k,g,c,g',c',h=>by
  rw[show m+1+n=(m+n)+1 by omega];have e:inn p gap (m+n+1) k g c=if(if p k=true then 0 else g+1)>gap then none else inn p gap (m+n) (k+1) (if p k=true then 0 else g+1) (if p k=true then c+1 else c):=rfl;rw[e];unfold inn at h
  by_cases hc:(if p k=true then 0 else g+1)>gap
  ·rw [if_pos hc]at h;exact absurd h (by simp)
  ·rw [if_neg hc]at h;rw[if_neg hc,inn_add p gap m n _ _ _ _ _ h,show k+1+(m:Int)=k+((m+1:Nat):Int) by omega]
theorem inn_gap (p:Int→Bool) (gap:Int):∀ (m:Nat) (k g c:Int),(∀ j:Int,k≤j→j<k+m→p j=false)→g+m≤gap→inn p gap m k g c=some (g+m,c)
 |0,k,g,c,_,_=>by simp[inn]
 |m+1,k,g,c,h,hg=>by
  unfold inn;have h0:p k=false:=h k (by omega) (by omega);simp only[h0,Bool.false_eq_true,if_false];rw[if_neg (by omega),inn_gap p gap m (k+1) (g+1) c (fun j h1 h2=>h j (by omega) (by omega)) (by omega)]
  congr 2;omega
def Good (p:Int→Bool) (gap:Int) (r:S29) (q:Int):Prop:=0≤r.f0∧r.f0≤r.f1∧p r.f0=true∧p r.f1=true∧∀ c,inn p gap (r.f1+1-r.f0).toNat r.f0 0 c=some (0,c+q)
theorem Good.one (p:Int→Bool) (gap:Int) (hg:0≤gap) {i:Int} (h0:0≤i) (h:p i=true):Good p gap ⟨i,i⟩ 1:=by
 refine⟨h0,Int.le_refl _,h,h,fun c=>?_⟩;rw[show ((⟨i,i⟩:S29).f1+1-(⟨i,i⟩:S29).f0).toNat=0+1 by simp;omega];simp only[inn,h,if_true];rw[if_neg (by omega)]
theorem Good.more (p:Int→Bool) (gap:Int) (hg:0≤gap) {r:S29} {q i:Int} (H:Good p gap r q) (h1:r.f1<i) (h:p i=true) (h2:∀ k:Int,r.f1<k→k<i→p k=false) (h3:i-r.f1-1≤gap):Good p gap ⟨r.f0,i⟩ (q+1):=by
 obtain⟨a1,a2,a3,a4,a5⟩:=H;refine⟨a1,by simp;omega,a3,h,fun c=>?_⟩;have e:((⟨r.f0,i⟩:S29).f1+1-(⟨r.f0,i⟩:S29).f0).toNat=(r.f1+1-r.f0).toNat+((i-r.f1-1).toNat+1):=by simp;omega
 rw[e,inn_add p gap _ _ _ _ _ _ _ (a5 c)];have e2:r.f0+((r.f1+1-r.f0).toNat:Int)=r.f1+1:=by omega
 rw[show (⟨r.f0,i⟩:S29).f0=r.f0 from rfl,e2,inn_add p gap _ _ _ _ _ _ _ (inn_gap p gap (i-r.f1-1).toNat (r.f1+1) 0 (c+q) (fun j hj hj2=>h2 j (by omega) (by omega)) (by omega))];have e3:r.f1+1+((i-r.f1-1).toNat:Int)=i:=by omega
 rw[e3];simp only[inn,h,if_true];rw[if_neg (by omega)]
 congr 2;omega
def Lay (p:Int→Bool) (gap:Int):List S29→Int→Prop
 | [],q=>q=0
 |r::l,q=>∃ a b,Good p gap r a∧Lay p gap l b∧q=a+b∧(∀ s t,l=s::t→s.f0-r.f1-1>gap)
theorem Lay.snoc {p:Int→Bool} {gap:Int}:∀ {l:List S29} {q:Int} {r:S29} {a:Int},Lay p gap l q→Good p gap r a→(∀ b s,l=b++ [s]→r.f0-s.f1-1>gap)→Lay p gap (l++ [r]) (q+a)
  | [],q,r,a,h,hr,_=>by
    simp only[Lay]at h;subst h;exact⟨a,0,hr,rfl,by omega,fun s t e=>by cases e⟩
  | x::l,q,r,a,h,hr,hs=>by
    obtain⟨u,v,h1,h2,h3,h4⟩:=h;refine⟨u,v+a,h1,Lay.snoc h2 hr (fun b s e=>hs (x::b) s (by rw[e];rfl)),by omega,fun s t e=>?_⟩
    cases l with
    |nil=>have e:=(List.cons.inj e).1;subst e;exact hs [] x rfl
    |cons y l'=>have e:=(List.cons.inj e).1;subst e;exact h4 y l' rfl
theorem Lay.snocInv {p:Int→Bool} {gap:Int}:∀ {l:List S29} {q:Int} {r:S29},Lay p gap (l++ [r]) q→∃ u v,Lay p gap l u∧Good p gap r v∧q=u+v∧(∀ b s,l=b++ [s]→r.f0-s.f1-1>gap)
  | [],q,r,h=>by
    obtain⟨a,b,h1,h2,h3,_⟩:=h;simp only[Lay]at h2;subst h2;exact⟨0,a,rfl,h1,by omega,fun b s e=>by cases b<;>cases e⟩
  | x ::l,q,r,h=>by
    obtain⟨a,b,h1,h2,h3,h4⟩:=h;obtain⟨u,v,k1,k2,k3,k4⟩:=Lay.snocInv h2;refine⟨a+u,v,⟨a,u,h1,k1,rfl,fun s t e=>?_⟩,k2,by omega,fun c s e=>?_⟩
    · subst e;exact h4 s (t++ [r]) rfl
    · cases c with
      |nil=>simp only[List.nil_append,List.cons.injEq]at e;obtain⟨rfl,rfl⟩:=e;exact h4 r [] rfl
      |cons y c=>simp only[List.cons_append,List.cons.injEq]at e;exact k4 c s e.2
theorem G_lay (p:Int→Bool) (gap:Int) (hg:0≤gap):∀ n,Lay p gap (fl (G p gap n)) (cnt p n)
 |0=>rfl
 | n +1=>by
  have ih:=G_lay p gap hg n;unfold G cnt
  by_cases c:p (n:Int)=true
  ·rw [if_pos c,if_pos c]
   cases e:G p gap n with
   |none=>
    rw[e]at ih;exact Lay.snoc (l:=[]) ih (Good.one p gap hg (by omega) c) (fun b s e=>by cases b<;>cases e)
   | some s=>
    obtain⟨b,r⟩:=s;obtain⟨h1,h2,h3⟩:=G_last p gap n b r e;rw[e]at ih;simp only[stepG]
    by_cases d:(n:Int)-r.f1-1≤gap
    ·rw [if_pos d];obtain⟨u,v,k1,k2,k3,k4⟩:=Lay.snocInv ih;have:=Lay.snoc k1 (Good.more p gap hg k2 h1 c h3 d) k4;rw[k3,show u+v+1=u+(v+1) by omega];exact this
    ·rw [if_neg d];refine Lay.snoc (l:=b++ [r]) ih (Good.one p gap hg (by omega) c) (fun b' s' e'=>?_);have:=List.append_inj_right' e' rfl
     injection this with this
     subst this;simp only;omega
  ·rw [if_neg c,if_neg c,Int.add_zero];exact ih
theorem Ev.shift {α:Type} {f:Nat→Option α} {r:α} (h:Ev f r) (d:Nat):Ev (fun k=>f (k+d)) r:=by
 obtain⟨k,hk⟩:=h;exact⟨k,fun j hj=>hk (j+d) (by omega)⟩
theorem fnz2 (a b:Int):fnz [a,b]=if a=0 then b else a:=by
 unfold fnz fnz fnz;split
 ·split<;>simp_all
 ·rfl
theorem isGates_eq (a:Int):L_isGates.f a=some (decide (0≤a∧a≤24)):=by
 unfold L_isGates.f;rw[within_eq];rfl

theorem rd_snoc (b:List S29) (r:S29):rd_T29 (b++ [r]) (b.length:Int)=r:=by
 unfold rd_T29;simp
theorem set_snoc (b:List S29) (r x:S29):(b++ [r]).set b.length x=b++ [x]:=by simp
theorem len_snoc (b:List S29) (r:S29) (h:b.length<1000):wrap64 (((b++ [r]).length:Int)-1)=(b.length:Int):=by
 rw[List.length_append,List.length_singleton];unfold wrap64;omega
theorem fl_len (p:Int→Bool) (gap:Int):∀ n,(fl (G p gap n)).length≤n
  |0=>by simp[G,fl]
  | n + 1=>by
    have ih:=fl_len p gap n;unfold G
    split
    · cases e:G p gap n with
      |none=>simp[stepG,fl]
      | some s=>
        obtain⟨b,r⟩:=s;rw[e]at ih;simp only[fl,List.length_append,List.length_singleton]at ih;simp only[stepG]
        split<;>simp only[fl,List.length_append,List.length_singleton]<;>omega
    · omega
theorem G_in_range (p:Int→Bool) (gap:Int):∀ n,∀ r∈fl (G p gap n),0≤r.f0∧r.f0≤r.f1∧r.f1<n
 |0=>fun r h=>by simp[G,fl]at h
 | n +1=>fun r h=>by
  have ih:=G_in_range p gap n;unfold G at h
  split at h
  ·cases e:G p gap n with
   |none=>
    rw[e]at h;simp only[stepG,fl,List.nil_append,List.mem_singleton]at h;subst h;exact⟨by simp,by simp,by simp;omega⟩
   | some s=>
    obtain⟨b,q⟩:=s;have hl:=G_last p gap n b q e;rw[e]at h ih;have hq:=ih q (by simp[fl]);simp only[stepG]at h
    split at h<;>simp only[fl,List.mem_append,List.mem_singleton]at h
    ·rcases h with h|rfl
     ·have:=ih r (by simp[fl,h]);omega
     ·exact ⟨hq.1,by simp;omega,by simp;omega⟩
    ·rcases h with h|rfl
     ·have:=ih r (by simp only[fl,List.mem_append,List.mem_singleton];exact h);omega
     ·exact ⟨by simp,by simp,by simp;omega⟩
  ·have:=ih r h;omega
theorem fl_some (b:List S29) (r:S29):fl (some (b,r))=b++ [r]:=rfl
theorem runs_l0 (P:Int→Bool) (pk:Nat→Int→Option Bool) (n:Nat) (hn:n≤30) (hp:∀ i:Nat,i<n→Ev (fun k=>pk k (i:Int)) (P (i:Int))):∀ (m i:Nat),i+m=n→∀ d,Ev (fun k=>L_runs.l0 (pk (k+d)) k (fl (G P 0 i)) (n:Int) (i:Int)) (fl (G P 0 n))
 |0,i,h,d=>by
  refine Ev.succ (f:=fun k=>L_runs.l0 (pk (k+d)) k (fl (G P 0 i)) (n:Int) (i:Int)) ?_;simp only[L_runs.l0,show ¬ (i:Int)<(n:Int) by omega,if_false];rw[show i=n by omega];exact Ev.some
 | m+1,i,h,d=>by
  refine Ev.succ (f:=fun k=>L_runs.l0 (pk (k+d)) k (fl (G P 0 i)) (n:Int) (i:Int)) ?_;obtain⟨x,hx⟩:∃ x,x=fl (G P 0 i):=⟨_,rfl⟩;rw[← hx];have hi:i<n:=by omega
  have ih:=runs_l0 P pk n hn hp m (i+1) (by omega) (d+1);have hlen:=fl_len P 0 i;simp only[L_runs.l0,show(i:Int)<(n:Int) by omega,if_true,up (show i<4611686018427387904 by omega)];refine Ev.bind (f:=fun k=>pk (k+1+d) (i:Int)) (by have:=(hp i hi).shift (1+d);simpa only[Nat.add_assoc]using this) ?_;have ekd:∀ k:Nat,k+1+d=k+(d+1):=fun k=>by omega
  simp only[ekd]
  by_cases c:P (i:Int)=true
  ·have eG:G P 0 (i+1)=stepG 0 (G P 0 i) (i:Int):=by rw[G,if_pos c]
   rw[eG]at ih;simp only[c,if_true]
   cases e:G P 0 i with
   |none=>
    rw[e]at ih hx;obtain rfl:x=[]:=hx;simp only[List.length_nil,show ¬ (wrap64 (((0:Nat):Int)-1)≥0) by unfold wrap64;omega,if_false,show(0:Nat)<8796093022208 by omega,if_true];exact ih
   |some s=>
    obtain⟨b,r⟩:=s;have hl:=G_last P 0 i b r e;have hr:=G_in_range P 0 i r (by rw[e];simp[fl]);rw[e]at ih hlen hx;obtain rfl:x=b++ [r]:=hx;simp only[fl_some,List.length_append,List.length_singleton]at hlen;simp only[len_snoc b r (by omega)];simp only[show (b.length:Int)≥0 by omega,show(0:Int)≤(b.length:Int) by omega,if_true];have h1:(b.length:Int)<((b++ [r]).length:Int):=by simp only[List.length_append,List.length_singleton];omega
    simp only[h1,if_true,rd_snoc,Int.toNat_natCast,set_snoc];rw[w64 (n:=(i:Int)-1) (by omega)];have h2:(b++ [r]).length<8796093022208:=by simp only[List.length_append,List.length_singleton];omega
    by_cases q:r.f1=(i:Int)-1
    ·simp only[q,if_true];simp only[stepG,show(i:Int)-r.f1-1≤0 by omega,if_true,fl_some]at ih;exact ih
    ·simp only[q,if_false,h2,if_true];simp only[stepG,show ¬ (i:Int)-r.f1-1≤0 by omega,if_false,fl_some]at ih;exact ih
  ·have eG:G P 0 (i+1)=G P 0 i:=by rw[G,if_neg c]
   rw[eG]at ih;simp only[c,if_false,Bool.false_eq_true];rw[hx];exact ih
theorem runs_ev (P:Int→Bool) (pk:Nat→Int→Option Bool) (n:Nat) (hn:n≤30) (hp:∀ i:Nat,i<n→Ev (fun k=>pk k (i:Int)) (P (i:Int))):Ev (fun k=>L_runs.f (pk k) k (n:Int)) (fl (G P 0 n)):=runs_l0 P pk n hn hp n 0 (by omega) 0

def Sm (r:S29):Prop:=0≤r.f0∧r.f0≤30∧0≤r.f1∧r.f1≤30
def keep (len:Int) (r:S29):Bool:=decide (len≤r.f1-r.f0+1)
theorem del_eq {r:S29} (h:Sm r) (len:Int):L_LayersIn_2.f r.f0 r.f1 len=some (!keep len r):=by
 unfold L_LayersIn_2.f keep;obtain⟨h1,h2,h3,h4⟩:=h;rw[w64 (n:=r.f1-r.f0) (by omega),w64 (n:=r.f1-r.f0+1) (by omega)]
 congr 1
 by_cases c:len≤r.f1-r.f0+1
 ·simp only[c,decide_true,Bool.not_true,decide_eq_false_iff_not];omega
 ·simp only[c,decide_false,Bool.not_false,decide_eq_true_eq];omega
theorem rd_drop {l:List S29} {i:Nat} (h:i<l.length):l.drop i=rd_T29 l (i:Int)::l.drop (i+1):=by
 unfold rd_T29;exact drop_getD z29 h
theorem rd_mem {l:List S29} {i:Nat} (h:i<l.length):rd_T29 l (i:Int)∈l:=by
 have:rd_T29 l (i:Int)∈l.drop i:=by rw[rd_drop h];exact List.mem_cons_self
 exact List.mem_of_mem_drop this
def fi (len:Int):List S29→Nat→Int
 | [],_=> -1
 |x::r,i=>if keep len x=true then fi len r (i+1)else(i:Int)
theorem IndexFunc_l0 (l:List S29) (len:Int) (hb:∀ r∈l,Sm r) (hl:l.length<1000):∀ (n i:Nat),i+n=l.length→Ev (fun k=>api_Range_42.l0 k l len (l.length:Int) (i:Int)) (fi len (l.drop i) i)
 |0,i,h=>by
  refine Ev.succ (f:=fun k=>api_Range_42.l0 k l len (l.length:Int) (i:Int)) ?_;simp only[api_Range_42.l0,show ¬ (i:Int)<(l.length:Int) by omega,if_false];rw[show l.drop i=[]from List.drop_eq_nil_of_le (by omega)];exact Ev.some
 |n+1,i,h=>by
  refine Ev.succ (f:=fun k=>api_Range_42.l0 k l len (l.length:Int) (i:Int)) ?_;have hi:i<l.length:=by omega
  rw[rd_drop hi];simp only[api_Range_42.l0,show(i:Int)<(l.length:Int) by omega,show(0:Int)≤(i:Int) by omega,if_true,up (show i<4611686018427387904 by omega),del_eq (hb _ (rd_mem hi)),Option.bind_some,fi]
  by_cases c:keep len (rd_T29 l (i:Int))=true
  ·simp only[c,Bool.not_true,Bool.false_eq_true,if_false,if_true];exact IndexFunc_l0 l len hb hl n (i+1) (by omega)
  ·simp only[c,if_false,show(!keep len (rd_T29 l (i:Int)))=true by simpa using c,if_true];exact Ev.some
theorem fi_spec (len:Int):∀ (l:List S29) (i:Nat),(fi len l i= -1∧l.filter (keep len)=l)∨∃ j:Nat,j<l.length∧fi len l i=((i+j:Nat):Int)∧l.take j++(l.drop (j+1)).filter (keep len)=l.filter (keep len)
 | [],i=> .inl ⟨rfl,rfl⟩
 | x::r,i=>by
  unfold fi
  by_cases c:keep len x=true
  ·rw [if_pos c]
   rcases fi_spec len r (i+1)with ⟨h1,h2⟩|⟨j,h1,h2,h3⟩
   ·exact .inl ⟨h1,by rw[List.filter_cons_of_pos c,h2]⟩
   ·refine .inr ⟨j+1,by simp;omega,by rw[h2];congr 1;omega,?_⟩;rw[List.filter_cons_of_pos c, ←h3];rfl
  ·rw [if_neg c];exact .inr ⟨0,by simp,by simp,by rw[List.filter_cons_of_neg c];rfl⟩
theorem Delete_l0 (len:Int):∀ (n:Nat) (x:List S29) (a i:Nat),(∀ r∈x,Sm r)→x.length<1000→a≤i→i+n=x.length→Ev (fun k=>api_Range_25.l0 k x len (a:Int) (i:Int)) (x.take a++(x.drop i).filter (keep len))
 |0,x,a,i,hb,hl,ha,h=>by
  refine Ev.succ (f:=fun k=>api_Range_25.l0 k x len (a:Int) (i:Int)) ?_;simp only[api_Range_25.l0,show ¬ (i:Int)<(x.length:Int) by omega,show(0:Int)≤(a:Int) by omega,show(a:Int)≤(x.length:Int) by omega,if_false,if_true,Int.toNat_natCast];rw[show x.drop i=[]from List.drop_eq_nil_of_le (by omega)];simp only[List.filter_nil,List.append_nil];exact Ev.some
 | n+1,x,a,i,hb,hl,ha,h=>by
  refine Ev.succ (f:=fun k=>api_Range_25.l0 k x len (a:Int) (i:Int)) ?_;have hi:i<x.length:=by omega
  have hm:=rd_mem hi;rw[rd_drop hi];simp only[api_Range_25.l0,show(i:Int)<(x.length:Int) by omega,show(0:Int)≤(i:Int) by omega,show(0:Int)≤(a:Int) by omega,show(a:Int)<(x.length:Int) by omega,if_true,up (show i<4611686018427387904 by omega),up (show a<4611686018427387904 by omega),del_eq (hb _ hm),Option.bind_some,Int.toNat_natCast]
  by_cases c:keep len (rd_T29 x (i:Int))=true
  ·simp only[c,Bool.not_true,Bool.false_eq_true,if_false];rw[List.filter_cons_of_pos c];have hs:(⟨(rd_T29 x (i:Int)).f0,(rd_T29 x (i:Int)).f1⟩:S29)=rd_T29 x (i:Int):=rfl;have ih:=Delete_l0 len n (x.set a (rd_T29 x (i:Int))) (a+1) (i+1) (fun r hr=>by
    rcases List.mem_or_eq_of_mem_set hr with hr|rfl
    ·exact hb r hr
    ·exact hb _ hm) (by rw[List.length_set];exact hl) (by omega) (by rw[List.length_set];omega)
   rw[List.drop_set_of_lt (show a<i+1 by omega),List.take_succ_eq_append_getElem (show a<(x.set a (rd_T29 x (i:Int))).length by rw[List.length_set];omega),List.getElem_set_self,List.take_set_of_le (Nat.le_refl _)]at ih;rw[List.append_assoc]at ih;exact ih
  ·simp only[show (!keep len (rd_T29 x (i:Int)))=true by simpa using c,if_true];rw[List.filter_cons_of_neg c];exact Delete_l0 len n x a (i+1) hb hl (by omega) (by omega)
theorem Delete_ev (x:List S29) (len:Int) (hb:∀ r∈x,Sm r) (hl:x.length<1000):Ev (fun k=>api_Range_25.f k x len) (x.filter (keep len)):=by
 unfold api_Range_25.f;have h0:=IndexFunc_l0 x len hb hl x.length 0 (by omega);rw[List.drop_zero]at h0;refine Ev.bind (f:=fun k=>api_Range_42.f k x len) h0 ?_
 rcases fi_spec len x 0 with ⟨h1,h2⟩|⟨j,h1,h2,h3⟩
 ·rw [h1,h2];simp only[if_true];exact Ev.some
 ·rw [h2,Nat.zero_add];simp only[show ¬ (j:Int)= -1 by omega,if_false,up (show j<4611686018427387904 by omega)];have:=Delete_l0 len (x.length-(j+1)) x j (j+1) hb hl (by omega) (by omega);rw[h3]at this;exact this

theorem stepM_Sm {gap:Int} {s:St} {q:S29} (hs:∀ r∈fl s,Sm r) (hq:Sm q):∀ r∈fl (stepM gap s q),Sm r:=by
  intro r hr
  match s with
  |none=>simp only[stepM,fl,List.nil_append,List.mem_singleton]at hr;subst hr;exact hq
  | some (b,t)=>
    simp only[stepM]at hr
    split at hr<;>simp only[fl,List.mem_append,List.mem_singleton]at hr
    · rcases hr with hr|rfl
      · exact hs r (by simp[fl,hr])
      · have h1:=hs t (by simp[fl]);exact⟨h1.1,h1.2.1,hq.2.2.1,hq.2.2.2⟩
    · rcases hr with hr|rfl
      · exact hs r (by simp only[fl,List.mem_append,List.mem_singleton];exact hr)
      · exact hq
theorem stepM_len {gap:Int} {s:St} {q:S29}:(fl (stepM gap s q)).length≤(fl s).length+1:=by
  match s with
  |none=>simp[stepM,fl]
  |some (b,t)=>simp only[stepM];split<;>simp[fl]
theorem Layers_l0 (rs:List S29) (x0 gap len:Int) (hb:∀ r∈rs,Sm r) (hl:rs.length≤30) (hg:0≤gap∧gap≤24):∀ (n j:Nat) (s:St),j+n=rs.length→(∀ r∈fl s,Sm r)→(fl s).length≤j→Ev (fun k=>L_LayersIn.l0 k (fl s) rs (rs.length:Int) (j:Int) x0 gap len) ((fl ((rs.drop j).foldl (stepM gap) s)).filter (keep len),0)
 |0,j,s,h,hs,hsl=>by
  refine Ev.succ (f:=fun k=>L_LayersIn.l0 k (fl s) rs (rs.length:Int) (j:Int) x0 gap len) ?_;simp only[L_LayersIn.l0,show ¬ (j:Int)<(rs.length:Int) by omega,if_false];rw[show rs.drop j=[]from List.drop_eq_nil_of_le (by omega)];exact Ev.bind (Delete_ev (fl s) len hs (by omega)) Ev.some
 | n+1,j,s,h,hs,hsl=>by
  refine Ev.succ (f:=fun k=>L_LayersIn.l0 k (fl s) rs (rs.length:Int) (j:Int) x0 gap len) ?_;have hj:j<rs.length:=by omega
  have hq:=hb _ (rd_mem hj);have ih:=Layers_l0 rs x0 gap len hb hl hg n (j+1) (stepM gap s (rd_T29 rs (j:Int))) (by omega) (stepM_Sm hs hq) (by have:=stepM_len (gap:=gap) (s:=s) (q:=rd_T29 rs (j:Int));omega);rw[rd_drop hj,List.foldl_cons];obtain⟨x,hx⟩:∃ x,x=fl s:=⟨_,rfl⟩;rw[← hx]at hsl ⊢;simp only[L_LayersIn.l0,show(j:Int)<(rs.length:Int) by omega,show(0:Int)≤(j:Int) by omega,if_true,up (show j<4611686018427387904 by omega)];generalize rd_T29 rs (j:Int)=q at*
  match s with
  |none=>
   obtain rfl:x=[]:=hx;simp only[List.length_nil,show ¬ (wrap64 (((0:Nat):Int)-1)≥0) by unfold wrap64;omega,if_false,show(0:Nat)<8796093022208 by omega,if_true];exact ih
  |some (b,r)=>
   have hr:=hs r (by simp[fl]);obtain rfl:x=b++ [r]:=hx;simp only[List.length_append,List.length_singleton]at hsl;simp only[len_snoc b r (by omega)];have h1:(b.length:Int)<((b++ [r]).length:Int):=by simp only[List.length_append,List.length_singleton];omega
   have h2:(b++ [r]).length<8796093022208:=by simp only[List.length_append,List.length_singleton];omega
   obtain⟨u1,u2,u3,u4⟩:=hr;obtain⟨v1,v2,v3,v4⟩:=hq;simp only[show (b.length:Int)≥0 by omega,show(0:Int)≤(b.length:Int) by omega,h1,if_true,rd_snoc,Int.toNat_natCast,set_snoc];rw[w64 (n:=q.f0-r.f1) (by omega),w64 (n:=q.f0-r.f1-1) (by omega)]
   by_cases c:q.f0-r.f1-1≤gap
   ·simp only[c,if_true];simp only[stepM,c,if_true,fl_some]at ih ⊢;exact ih
   ·simp only[c,if_false,h2,if_true];simp only[stepM,c,if_false,fl_some]at ih ⊢;exact ih
def rEY (x0 x1 x2:Int):Int:=if((1≤x0∧x0≤10000)∧(0≤x1∧x1≤24))∧(1≤x2∧x2≤24)then 0 else 2
theorem rE_ok {x0 x1 x2:Int} (h:rEY x0 x1 x2=0):(1≤x0∧x0≤10000)∧(0≤x1∧x1≤24)∧(1≤x2∧x2≤24):=by
 unfold rEY at h;split at h<;>omega
def clY (l:List Int) (x0:Int) (i:Int):Bool:=decide (x0≤rd l i)
theorem G_Sm (p:Int→Bool) (gap:Int) (n:Nat) (hn:n≤30):∀ r∈fl (G p gap n),Sm r:=fun r hr=>by
 have:=G_in_range p gap n r hr;exact⟨by omega,by omega,by omega,by omega⟩
theorem LayersIn_j0 (l:List Int) (e x0 x1 x2:Int) (b:Bool) (hok:(if e=0 then(if b=true then 0 else 2)else e)=0→l.length≤24∧0≤x1∧x1≤24):Ev (fun k=>L_LayersIn.j0 k e b x0 x1 x2 l) (if(if e=0 then(if b=true then 0 else 2)else e)=0 then((fl (G (clY l x0) x1 l.length)).filter (keep x2),0)else([],(if e=0 then(if b=true then 0 else 2)else e))):=by
 refine Ev.succ (f:=fun k=>L_LayersIn.j0 k e b x0 x1 x2 l) ?_;simp only[L_LayersIn.j0,unless_eq,Option.bind_some];have hf:Ev (fun k=>L_first.f k [e,if b=true then 0 else 2]) (if e=0 then(if b=true then 0 else 2)else e):=by
  have:=first_ev [e,if b=true then 0 else 2] (by simp);rw[fnz2]at this;exact this
 refine Ev.bind hf ?_;generalize (if e=0 then(if b=true then 0 else 2)else e)=u at*
 by_cases h:u=0
 ·obtain ⟨h4,hg⟩:=hok h;simp only[h,if_true];have hr:Ev (fun k=>L_runs_floor.f k (l.length:Int) l x0 x1 x2) (fl (G (clY l x0) 0 l.length)):=by
   unfold L_runs_floor.f;refine runs_ev (clY l x0) (fun _=>L_runs_floor.p l x0) l.length (by omega) (fun i hi=>?_);unfold L_runs_floor.p clY;simp only[show (0:Int)≤(i:Int) by omega,show(i:Int)<(l.length:Int) by omega,if_true];exact Ev.some
  refine Ev.bind hr ?_;have hlen:=fl_len (clY l x0) 0 l.length;have:=Layers_l0 (fl (G (clY l x0) 0 l.length)) x0 x1 x2 (G_Sm _ _ _ (by omega)) (by omega) hg (fl (G (clY l x0) 0 l.length)).length 0 none (by omega) (by simp[fl]) (by simp[fl]);rw[List.drop_zero]at this;have hm:=mf_runs (clY l x0) x1 hg.1 l.length;unfold mf at hm;rw[hm]at this;exact this
 ·simp only[h,if_false];exact Ev.some
def lEY (l:List Int) (x0 x1 x2:Int):Int:=if(pE l).2=0 then rEY x0 x1 x2 else(pE l).2
theorem LayersIn_ev (l:List Int) (x0 x1 x2:Int) (hl:l.length<4611686018427387904):Ev (fun k=>L_LayersIn.f k l x0 x1 x2) (if lEY l x0 x1 x2=0 then((fl (G (clY l x0) x1 l.length)).filter (keep x2),0)else([],lEY l x0 x1 x2)):=by
 unfold L_LayersIn.f;refine Ev.bind (open_ev l hl) ?_;simp only[within_eq,isGates_eq,Option.bind_some,decide_eq_true_eq];have fin:∀ b:Bool,(if b=true then(0:Int)else 2)=rEY x0 x1 x2→Ev (fun k=>L_LayersIn.j0 k (pE l).2 b x0 x1 x2 l) (if lEY l x0 x1 x2=0 then((fl (G (clY l x0) x1 l.length)).filter (keep x2),0)else([],lEY l x0 x1 x2)):=by
  intro b hb;have:=LayersIn_j0 l (pE l).2 x0 x1 x2 b (fun h=>by
   rw[hb]at h
   split at h
   ·rename_i h1
    have h2:=rE_ok h;have h3:=pE_ok h1
    omega
   ·rename_i h1;exact absurd h h1)
  rw[hb]at this;exact this
 by_cases h1:1≤x0∧x0≤10000
 ·by_cases h2:0≤x1∧x1≤24
  ·have:=fin (decide (1≤x2∧x2≤24)) (by unfold rEY;simp only[h1,h2,and_self,true_and,decide_eq_true_eq]);simp only[h1,h2,and_self,if_true];exact this
  ·have:=fin false (by unfold rEY;simp only[h1,h2,and_false,false_and,if_false,Bool.false_eq_true]);simp only[h1,h2,and_self,if_true,if_false];exact this
 ·have:=fin false (by unfold rEY;simp only[h1,false_and,if_false,Bool.false_eq_true]);simp only[h1,if_false];exact this

theorem Ranges_l0 (x:List S29) (hl:x.length<4611686018427387904):∀ (n i:Nat),i+n=x.length→Ev (fun k=>Bs_Ranges.l0 k x x (i:Int)) true
 |0,i,h=>by
  refine Ev.succ (f:=fun k=>Bs_Ranges.l0 k x x (i:Int)) ?_;simp only[Bs_Ranges.l0,show ¬ (i:Int)<(x.length:Int) by omega,if_false];exact Ev.some
 |n+1,i,h=>by
  refine Ev.succ (f:=fun k=>Bs_Ranges.l0 k x x (i:Int)) ?_;simp only[Bs_Ranges.l0,show(i:Int)<(x.length:Int) by omega,show(0:Int)≤(i:Int) by omega,if_true,beq_self_eq_true,Bool.not_true,Bool.or_self,Bool.false_eq_true,if_false,up (show i<4611686018427387904 by omega)];exact Ranges_l0 x hl n (i+1) (by omega)
theorem Ranges_ev (x:List S29) (hl:x.length<4611686018427387904):Ev (fun k=>Bs_Ranges.f k x x) true:=by
 unfold Bs_Ranges.f;simp only[if_true];exact Ranges_l0 x hl x.length 0 (by omega)
theorem Ints_l0 (x:List Int) (hl:x.length<4611686018427387904):∀ (n i:Nat),i+n=x.length→Ev (fun k=>Bs_Ints.l0 k x x (i:Int)) true
 |0,i,h=>by
  refine Ev.succ ?_;simp only[Bs_Ints.l0,show ¬ (i:Int)<(x.length:Int) by omega,if_false];exact Ev.some
 |n+1,i,h=>by
  refine Ev.succ ?_;simp only[Bs_Ints.l0,show(i:Int)<(x.length:Int) by omega,show(0:Int)≤(i:Int) by omega,if_true,up (show i<4611686018427387904 by omega)];exact Ints_l0 x hl n (i+1) (by omega)
theorem Ints_ev (x:List Int) (hl:x.length<4611686018427387904):Ev (fun k=>Bs_Ints.f k x x) true:=by
 unfold Bs_Ints.f;simp only[if_true];exact Ints_l0 x hl x.length 0 (by omega)
def gts:List (Int×Nat)→List Int
 | []=> []
 |(v,n)::r=>List.replicate n v++gts r
def bgs:List (Int×Nat)→Nat→List Nat
 | [],_=> []
 |(_,n)::r,o=>o::bgs r (o+n)
theorem gts_append (a b:List (Int×Nat)):gts (a++b)=gts a++gts b:=by
 induction a with
 |nil=>rfl
 |cons x r ih=>obtain⟨v,n⟩:=x;simp only[List.cons_append,gts,ih,List.append_assoc]
theorem bgs_append (a b:List (Int×Nat)):∀ o,bgs (a++b) o=bgs a o++bgs b (o+(gts a).length):=by
  induction a with
  |nil=>intro o;rfl
  |cons x r ih=>intro o;obtain⟨v,n⟩:=x;simp only[List.cons_append,bgs,ih,gts,List.length_append,List.length_replicate,Nat.add_assoc]
theorem bgs_length (a:List (Int×Nat)):∀ o,(bgs a o).length=a.length:=by
  induction a with
  |nil=>intro o;rfl
  |cons x r ih=>intro o;obtain⟨v,n⟩:=x;simp only[bgs,List.length_cons,ih]
def Stp:List (Int×Nat)→Prop
 | []=>True
 | [(_,n)]=>0<n
 |(v,n)::(u,m)::r=>0<n∧v≠u∧Stp ((u,m)::r)
theorem Stp.pos {v:Int} {n:Nat} {r:List (Int×Nat)} (h:Stp ((v,n)::r)):0<n:=by
  cases r with
  |nil=>exact h
  |cons x r=>exact h.1
theorem Stp.tail {x:Int×Nat} {r:List (Int×Nat)} (h:Stp (x::r)):Stp r:=by
 obtain⟨v,n⟩:=x
 cases r with
 |nil=>trivial
 |cons y r=>exact h.2.2
theorem hd_bgs (r:List (Int×Nat)) (o:Nat):hd (bgs r o) (o+(gts r).length)=o:=by
  cases r with
  |nil=>simp[bgs,hd,gts]
  |cons x r=>rfl
theorem dst_same (v:Int):∀ l:List Int,(∀ x∈l,x=v)→dst v l=0
 | [],_=>rfl
 |x::r,h=>by
  have h1:=h x List.mem_cons_self;subst h1;simp only[dst,dst_same x r (fun y hy=>h y (List.mem_cons_of_mem _ hy))];rw[if_pos (Int.le_refl x)];omega
theorem dst_zero (v:Int):∀ l:List Int,dst v l=0→∀ x∈l,x=v
 | [],_,x,hx=>by cases hx
 | y::r,h,x,hx=>by
  have h1:=dst_nonneg v r;simp only[dst]at h;have h2:y=v∧dst v r=0:=by
   by_cases c:y≤v
   ·rw [if_pos c]at h;omega
   ·rw [if_neg c]at h;omega
  rcases List.mem_cons.mp hx with rfl|hx
  ·exact h2.1
  ·exact dst_zero v r h2.2 x hx
theorem co_same {g:List Int} {v:Int} (h:∀ x∈g,x=v) (h0:0≤co g):co g=0:=by
 have h1:=co_le g v;rw[dst_same v g h]at h1
 omega
theorem co_zero {g:List Int} (h:co g=0) (x y:Int) (hx:x∈g) (hy:y∈g):x=y:=by
 have h0:0<g.length:=List.length_pos_of_mem hx;rw[co_mid g h0]at h;rw[dst_zero _ g h x hx,dst_zero _ g h y hy]
theorem mem_seg {l:List Int} {i j q:Nat} (h1:i≤q) (h2:q<j) (hj:j≤l.length):rd l (q:Int)∈seg l i j:=by
 have h3:q-i<(seg l i j).length:=by rw[seg_length l i j hj];omega
 have h4:=seg_get hj h3;rw[show ((i+(q-i):Nat):Int)=(q:Int) by omega]at h4;rw[← h4];exact List.getElem_mem _
theorem seg_step (p q:List Int) (v:Int) (n:Nat):seg (p++(List.replicate n v++q)) p.length (p.length+n)=List.replicate n v:=by
 unfold seg;rw[List.take_append,List.take_of_length_le (by omega),show p.length+n-p.length=n by omega,List.take_append,List.length_replicate,Nat.sub_self,List.take_zero,List.append_nil,List.take_of_length_le (by simp),List.drop_append,List.drop_of_length_le (Nat.le_refl _),Nat.sub_self,List.drop_zero,List.nil_append]
theorem cst_steps (pen:Int) (B:∀ g:List Int,(∀ x∈g,0≤x∧x≤10000)→0≤co g):∀ (st:List (Int×Nat)) (p:List Int),(∀ x∈p++gts st,0≤x∧x≤10000)→cst (p++gts st) pen (bgs st p.length) (p.length+(gts st).length)=pen*(st.length:Int)
 | [],p,_=>by simp[bgs,cst]
 |(v,n)::r,p,hb=>by
  have ih:=cst_steps pen B r (p++List.replicate n v) (by simpa [gts,List.append_assoc]using hb);have e1:(p++List.replicate n v).length=p.length+n:=by simp
  rw[e1,List.append_assoc]at ih;simp only[bgs,cst,gts];rw[show p.length+(List.replicate n v++gts r).length=p.length+n+(gts r).length by simp;omega,hd_bgs,ih,seg_step];rw[co_same (v:=v) (fun x hx=>List.eq_of_mem_replicate hx) (B _ (fun x hx=>hb x (by simp only[gts,List.mem_append];exact .inr (.inl hx))))];rw[List.length_cons,show((r.length+1:Nat):Int)=(r.length:Int)+1 by omega,Int.mul_add]
  omega
theorem asc_steps:∀ (st:List (Int×Nat)) (o:Nat),Stp st→asc (bgs st o) (o+(gts st).length)
 | [],_,_=>trivial
 |(v,n)::r,o,h=>by
  have ih:=asc_steps r (o+n) h.tail;have hp:=h.pos;simp only[bgs,asc,gts];rw[show o+(List.replicate n v++gts r).length=o+n+(gts r).length by simp;omega,hd_bgs];exact⟨by omega,ih⟩
theorem rd_append_left {a b:List Int} {q:Nat} (h:q<a.length):rd (a++b) (q:Int)=rd a (q:Int):=by
 rw[rd_nat,rd_nat];simp[List.getD,List.getElem?_append_left h]
theorem rd_append_right (a b:List Int) (q:Nat):rd (a++b) ((a.length+q:Nat):Int)=rd b (q:Int):=by
 rw[rd_nat,rd_nat];simp[List.getD,List.getElem?_append_right]
theorem rd_rep {n:Nat} {v:Int} {q:Nat} (h:q<n):rd (List.replicate n v) (q:Int)=v:=by
 rw[rd_nat];simp[List.getD,h]
theorem chg_steps:∀ (st:List (Int×Nat)) (p:List Int),Stp st→∀ z∈bgs st p.length,p.length<z→rd (p++gts st) ((z-1:Nat):Int)≠rd (p++gts st) (z:Int)
  | [],p,_,z,hz,_=>by cases hz
  | (v, n) :: r,p,h,z,hz,hlt=>by
    simp only[bgs]at hz
    rcases List.mem_cons.mp hz with rfl|hz
    · omega
    have hp:=h.pos;have e1:(p++List.replicate n v).length=p.length+n:=by simp
    have e2:p++gts ((v,n)::r)=(p++List.replicate n v)++gts r:=by simp[gts]
    rw[e2];rw[← e1]at hz
    by_cases hz2:p.length+n<z
    · exact chg_steps r (p++List.replicate n v) h.tail z hz (by rw[e1];exact hz2)
    · cases r with
      |nil=>cases hz
      | cons x r=>
        obtain ⟨u,m⟩:=x;have hm:=h.tail.pos;have h6:z=p.length+n:=by
          rw [e1]at hz;have h7:=asc_steps ((u,m)::r) (p.length+n) h.tail;have h8:∀ (b:List Nat) (e:Nat),asc b e→∀ z∈b,hd b e≤z:=by
            intro b
            induction b with
            |nil=>intro e _ z hz;cases hz
            | cons y b ih=>
              intro e ha z hz
              rcases List.mem_cons.mp hz with rfl|hz
              · exact Nat.le_refl _
              · have:=ih e ha.2 z hz;have:=ha.1;simp only[hd]at*
                omega
          have h9:=h8 _ _ h7 z hz;rw[hd_bgs]at h9
          omega
        subst h6;rw[rd_append_left (show p.length+n-1<(p++List.replicate n v).length by rw[e1];omega)];rw[show p.length+n-1=p.length+(n-1) by omega,rd_append_right,rd_rep (by omega)];have:=rd_append_right (p++List.replicate n v) (gts ((u,m)::r)) 0;rw[e1,Nat.add_zero]at this;rw[this];simp only[gts];rw[rd_append_left (by simp;omega),rd_rep hm];exact h.2.1
theorem least_div {l:List Int} {e:Nat} (he:e≤l.length):∀ (b a:List Nat),asc a e→asc b e→hd b e≤hd a e→
    (∀ x∈a,hd b e<x→rd l ((x-1:Nat):Int)≠rd l (x:Int))→(∀ x y:Nat,∀ b',(∃ c,b=c++(x::b'))→y=hd b' e→co (seg l x y)=0)→
    a.length≤b.length∧(a.length=b.length→hd b e=hd a e∧a=b)
  | [],a,ha,_,hh,_,_=>by
    simp only[hd]at hh
    cases a with
    |nil=>exact⟨Nat.le_refl _,fun _=>⟨rfl,rfl⟩⟩
    | cons x a=>
      have h1:=asc_hd ha.2;have h2:=ha.1;simp only[hd]at hh
      omega
  | u :: b, a,ha,hb,hh,hc,hz=>by
    have hub:=hb.1;have h0:co (seg l u (hd b e))=0:=hz u (hd b e) b ⟨[],rfl⟩ rfl;have hle:=asc_hd hb.2;have key:∀ x∈a,u<x→hd b e≤x:=by
      intro x hx hux;refine Classical.byContradiction fun hn=>?_;exact hc x hx hux (co_zero h0 _ _ (mem_seg (by omega) (by omega) (by omega)) (mem_seg (by omega) (by omega) (by omega)))
    have hz':∀ x y:Nat,∀ b',(∃ c,b=c++(x::b'))→y=hd b' e→co (seg l x y)=0:=by
      intro x y b' hx hy;obtain⟨c,hx⟩:=hx;exact hz x y b' ⟨u::c,by rw[hx];rfl⟩ hy
    simp only[hd]at hh
    cases a with
    |nil=>exact⟨by simp,fun h=>by simp at h⟩
    | cons x a=>
      simp only[hd]at hh;have hasc:∀ y∈a,x<y:=by
        have h8:∀ (b:List Nat) (e:Nat),asc b e→∀ z∈b,hd b e≤z:=by
          intro b
          induction b with
          |nil=>intro e _ z hz;cases hz
          | cons y b ih=>
            intro e ha z hz
            rcases List.mem_cons.mp hz with rfl|hz
            · exact Nat.le_refl _
            · have:=ih e ha.2 z hz;have:=ha.1;simp only[hd]at*
              omega
        intro y hy;have:=h8 a e ha.2 y hy;have:=ha.1
        omega
      by_cases hux:u<x
      · have h3:=key x List.mem_cons_self hux;have h4:=least_div he b (x::a) ha hb.2 (by simp only[hd];exact h3) (fun y hy hlt=>hc y hy (by simp only[hd];omega)) hz';refine⟨by simp only[List.length_cons]at *;omega,fun h=>?_⟩;have:=h4.1;simp only[List.length_cons]at*
        omega
      · have hx:u=x:=by omega
        subst hx;have h3:hd b e≤hd a e:=by
          cases a with
          |nil=>exact hle
          |cons y a=>exact key y (List.mem_cons_of_mem _ List.mem_cons_self) (hasc y List.mem_cons_self)
        have h4:=least_div he b a ha.2 hb.2 h3 (fun y hy hlt=>hc y (List.mem_cons_of_mem _ hy) (by simp only[hd];have:=hasc y hy;omega)) hz';refine⟨by simp only[List.length_cons];omega,fun h=>⟨rfl,?_⟩⟩;simp only[List.length_cons]at h;rw[(h4.2 (by omega)).2]
theorem cst_zero {l:List Int} {e:Nat} (B:∀ i j,0≤co (seg l i j)):∀ (b:List Nat),cst l 0 b e=0→∀ x y:Nat,∀ b',(∃ c,b=c++(x::b'))→y=hd b' e→co (seg l x y)=0
  | [],_,x,y,b',hx,_=>by obtain⟨c,hx⟩:=hx;cases c<;>cases hx
  | u ::b,h,x,y,b',hx,hy=>by
    have N:∀ b:List Nat,0≤cst l 0 b e:=by
      intro b
      induction b with
      |nil=>simp[cst]
      |cons x b ih=>simp only[cst];have:=B x (hd b e);omega
    have h1:=N b;have h2:=B u (hd b e);simp only[cst]at h;obtain⟨c,hx⟩:=hx
    cases c with
    | nil=>
      injection hx with e1 e2
      subst e1;subst e2;subst hy
      omega
    | cons w c=>
      injection hx with e1 e2
      exact cst_zero B b (by omega) x y b' ⟨c,e2⟩ hy
theorem Best_steps {st:List (Int×Nat)} (hS:Stp st) (hb:∀ x∈gts st,0≤x∧x≤10000) {c:Int} {b:List Nat} (h:Best (gts st) 0 0 (gts st).length c b):c=0∧b=bgs st 0:=by
 have B:∀ i j,0≤co (seg (gts st) i j):=co_nonneg hb;have B':∀ g:List Int,(∀ x∈g,0≤x∧x≤10000)→0≤co g:=fun g hg=>(co_in g hg).1;have h1:=cst_steps 0 B' st [] (by simpa using hb);have h2:=asc_steps st 0 hS;have h3:=hd_bgs st 0;have h4:=chg_steps st [] hS;simp only[List.nil_append,List.length_nil,Nat.zero_add,Int.zero_mul]at h1 h2 h3 h4;have h5:=h.2.2 (bgs st 0) ⟨h3,h2⟩;have h6:=cst_nonneg hb (Int.le_refl 0) (gts st).length b;rw[h1,h.2.1]at h5;have h7:cst (gts st) 0 b (gts st).length=0:=by
  unfold be bt at h5
  rcases h5 with (h5|⟨h5,_⟩)|⟨h5,_⟩<;>omega
 rw[h7]at h5;have h8:=least_div (l:=gts st) (Nat.le_refl _) b (bgs st 0) h2 h.1.2 (by rw[h3,h.1.1];exact Nat.le_refl 0) (fun x hx hlt=>h4 x hx (by rw[h.1.1]at hlt;exact hlt)) (cst_zero B b h7);refine⟨by rw[h.2.1,h7],?_⟩;unfold be bt at h5
 rcases h5 with (h5|⟨_,h5|⟨h5,_⟩⟩)|⟨_,h5⟩
 ·omega
 ·omega
 ·exact (h8.2 h5.symm).2.symm
 ·exact h5
theorem Best_pen {st:List (Int×Nat)} (hS:Stp st) (hb:∀ x∈gts st,0≤x∧x≤10000) {pen:Int} (hp:0≤pen) {c:Int} {b:List Nat} (h:Best (gts st) pen 0 (gts st).length c b):c≤pen*(st.length:Int)∧b.length≤st.length:=by
  have B':∀ g:List Int,(∀ x∈g,0≤x∧x≤10000)→0≤co g:=fun g hg=>(co_in g hg).1;have h1:=cst_steps pen B' st [] (by simpa using hb);have h2:=asc_steps st 0 hS;have h3:=hd_bgs st 0;simp only[List.nil_append,List.length_nil,Nat.zero_add]at h1 h2 h3;have h5:=h.2.2 (bgs st 0) ⟨h3,h2⟩;rw[h1]at h5;have h6:c≤pen*(st.length:Int):=by
    unfold be bt at h5
    rcases h5 with (h5|⟨h5,_⟩)|⟨h5,_⟩<;>omega
  refine⟨h6,?_⟩
  by_cases hp0:pen=0
  · subst hp0;rw[(Best_steps hS hb h).2,bgs_length];exact Nat.le_refl _
  · have N:∀ (b:List Nat) (e:Nat),pen*(b.length:Int)≤cst (gts st) pen b e:=by
      intro b
      induction b with
      |nil=>intro e;simp[cst]
      | cons x b ih=>
        intro e;have i1:=ih e;have i2:=co_nonneg hb x (hd b e);simp only[cst,List.length_cons];rw[show ((b.length+1:Nat):Int)=(b.length:Int)+1 by omega,Int.mul_add]
        omega
    have h7:=N b (gts st).length;rw[← h.2.1]at h7;have h8:pen*(b.length:Int)≤pen*(st.length:Int):=Int.le_trans h7 h6;have:=Int.le_of_mul_le_mul_left h8 (by omega)
    omega
theorem G_congr (p q:Int→Bool) (gap:Int):∀ n:Nat,(∀ i:Nat,i<n→p (i:Int)=q (i:Int))→G p gap n=G q gap n
 |0,_=>rfl
 |n+1,h=>by
  unfold G;rw[h n (by omega),G_congr p q gap n (fun i hi=>h i (by omega))]
def stepC (s:St) (o n:Nat):St:=
 match s with
 |none=>some ([],⟨(o:Int),(o:Int)+n-1⟩)
 |some (b,r)=>if r.f1=(o:Int)-1 then some (b,⟨r.f0,(o:Int)+n-1⟩)else some (b++ [r],⟨(o:Int),(o:Int)+n-1⟩)
theorem G_off (p:Int→Bool) (o:Nat):∀ n:Nat,(∀ i:Nat,o≤i→i<o+n→p (i:Int)=false)→G p 0 (o+n)=G p 0 o
 |0,_=>rfl
 |n+1,h=>by
  rw[← Nat.add_assoc];unfold G;rw[if_neg (by rw[h (o+n) (by omega) (by omega)];simp),G_off p o n (fun i h1 h2=>h i h1 (by omega))]
  cases o<;>rfl
theorem G_on (p:Int→Bool) (o:Nat):∀ n:Nat,(∀ i:Nat,o≤i→i<o+(n+1)→p (i:Int)=true)→G p 0 (o+(n+1))=stepC (G p 0 o) o (n+1)
  | 0,h=>by
    rw[show o+(0+1)=o+1 by omega]
    show(if p (o:Int)=true then stepG 0 (G p 0 o) (o:Int)else G p 0 o)=_
    rw[if_pos (h o (by omega) (by omega))]
    cases e:G p 0 o with
    |none=>simp only[stepG,stepC];rw[show (o:Int)+((0+1:Nat):Int)-1=(o:Int) by omega]
    | some s=>
      obtain⟨b,r⟩:=s;have h1:=(G_last p 0 o b r e).1;simp only[stepG,stepC];rw[show (o:Int)+((0+1:Nat):Int)-1=(o:Int) by omega]
      by_cases c:r.f1=(o:Int)-1
      · rw[if_pos c,if_pos (by omega)]
      · rw[if_neg c,if_neg (by omega)]
  | n +1,h=>by
    have ih:=G_on p o n (fun i h1 h2=>h i h1 (by omega));rw[← Nat.add_assoc]
    show(if p ((o+(n+1):Nat):Int)=true then stepG 0 (G p 0 (o+(n+1))) ((o+(n+1):Nat):Int)else G p 0 (o+(n+1)))=_
    rw[if_pos (h (o+(n+1)) (by omega) (by omega)),ih];have e1:((o+(n+1):Nat):Int)=(o:Int)+((n+1+1:Nat):Int)-1:=by omega
    cases e:G p 0 o with
    | none=>
      simp only[stepC,stepG];rw[if_pos (by omega),e1]
    | some s=>
      obtain⟨b,r⟩:=s;simp only[stepC]
      by_cases c:r.f1=(o:Int)-1
      · simp only[if_pos c,stepG];rw[if_pos (by omega),e1]
      · simp only[if_neg c,stepG];rw[if_pos (by omega),e1]
theorem G_step (l:List Int) (v x:Int) (n:Nat):G (fun i=>decide (x≤rd (l++List.replicate (n+1) v) i)) 0 (l++List.replicate (n+1) v).length=
  if x≤v then stepC (G (fun i=>decide (x≤rd l i)) 0 l.length) l.length (n+1)else G (fun i=>decide (x≤rd l i)) 0 l.length:=by
 have e:G (fun i=>decide (x≤rd (l++List.replicate (n+1) v) i)) 0 l.length=G (fun i=>decide (x≤rd l i)) 0 l.length:=
  G_congr _ _ 0 l.length (fun i hi=>by simp only[rd_append_left hi])
 have hv:∀ i:Nat,l.length≤i→i<l.length+(n+1)→rd (l++List.replicate (n+1) v) (i:Int)=v:=by
  intro i h1 h2;have:=rd_append_right l (List.replicate (n+1) v) (i-l.length);rw[show l.length+(i-l.length)=i by omega,rd_rep (by omega)]at this;exact this
 rw[List.length_append,List.length_replicate]
 by_cases c:x≤v
 ·rw [if_pos c, ←e];exact G_on _ l.length n (fun i h1 h2=>by simp only[hv i h1 h2];exact decide_eq_true c)
 ·rw [if_neg c, ←e];exact G_off _ l.length (n+1) (fun i h1 h2=>by simp only[hv i h1 h2];exact decide_eq_false c)
theorem shown_ev:Ev (fun k=>glidepathtop_cloudShown.f k) true:=
 Ev.of_mono (k:=1500) (fun k=>glidepathtop_cloudShown.mono k) (by kernel_rfl)
def sp (x:S27):Int×Nat:=(x.f0,x.f1.toNat)
def sps (x:List S27) (i:Nat):List (Int×Nat):=(x.take i).map sp
def lay (g:List Int):List S29:=fl (G (fun i=>decide (50≤rd g i)) 0 g.length)
theorem rdS_lt {x:List S27} {i:Nat} (h:i<x.length):rd_T27 x (i:Int)=x[i]:=by unfold rd_T27;simp[h]
theorem rdR_lt {x:List S29} {i:Nat} (h:i<x.length):rd_T29 x (i:Int)=x[i]:=by unfold rd_T29;simp[h]
theorem sps_succ {x:List S27} {i:Nat} (h:i<x.length):sps x (i+1)=sps x i++ [((rd_T27 x (i:Int)).f0,(rd_T27 x (i:Int)).f1.toNat)]:=by
 unfold sps;rw[List.take_succ_eq_append_getElem h,List.map_append,rdS_lt h];rfl
theorem sps_length {x:List S27} {i:Nat} (h:i≤x.length):(sps x i).length=i:=by unfold sps;simp;omega
theorem Stp_snoc:∀ {s:List (Int×Nat)} {v:Int} {n:Nat},Stp s→0<n→(∀ r u m,s=r++ [(u,m)]→u≠v)→Stp (s++ [(v,n)])
 | [],v,n,_,hn,_=>hn
 | [(u,m)],v,n,h,hn,hd=>⟨h,hd [] u m rfl,hn⟩
 |(u,m)::(u',m')::r,v,n,h,hn,hd=>by
  have:=Stp_snoc (s:=(u',m')::r) h.tail hn (fun r' a b e=>hd ((u,m)::r') a b (by rw[e];rfl));exact⟨h.1,h.2.1,this⟩
def Okk (st:List (Int×Nat)):Prop:=Stp st∧(∀ p∈st,(0≤p.1∧p.1≤100)∧1≤p.2∧p.2≤4)
theorem gts_len:∀ {st:List (Int×Nat)},(∀ p∈st,(0≤p.1∧p.1≤100)∧1≤p.2∧p.2≤4)→(gts st).length≤4*st.length∧st.length≤(gts st).length∧∀ x∈gts st,0≤x∧x≤100
 | [],_=>by simp[gts]
 |(v,n)::r,h=>by
  obtain⟨h1,h2,h3⟩:=gts_len (st:=r) (fun p hp=>h p (List.mem_cons_of_mem _ hp));have h4:=h (v,n) List.mem_cons_self;refine⟨by simp only[gts,List.length_append,List.length_replicate,List.length_cons];omega,by simp only[gts,List.length_append,List.length_replicate,List.length_cons];omega,fun x hx=>?_⟩;simp only[gts,List.mem_append]at hx
  rcases hx with hx|hx
  ·rw [List.eq_of_mem_replicate hx];exact h4.1
  ·exact h3 x hx
theorem stepC_len (s:St) (o n:Nat):(fl (stepC s o n)).length≤(fl s).length+1:=by
  match s with
  |none=>simp[stepC,fl]
  |some (b,r)=>simp only[stepC];split<;>simp[fl]
theorem lay_step (g:List Int) (v:Int) (n:Nat):lay (g++List.replicate (n+1) v)=if 50≤v then fl (stepC (G (fun i=>decide (50≤rd g i)) 0 g.length) g.length (n+1))else lay g:=by
 unfold lay;rw[G_step]
 split<;>rfl
theorem lay_len (g:List Int) (v:Int) (n:Nat):(lay (g++List.replicate (n+1) v)).length≤(lay g).length+1:=by
 rw[lay_step]
 split
 ·exact stepC_len _ _ _
 ·omega
theorem TL_l1 (x0:List S27) (x1 x2:Int) (b:List Int) (y:List S29) (i:Nat) (hi:i<x0.length) (hi6:i<1000) (n:Nat) (hn:(rd_T27 x0 (i:Int)).f1=(n:Int)) (hn4:n≤4) (g:List Int) (hg:g.length≤1000)
  (h:Ev (fun k=>glidepathtop_TopCloudLayers.l0 k x0 x1 x2 (g++List.replicate n (rd_T27 x0 (i:Int)).f0) b y ((i+1:Nat):Int)) true):
  ∀ (m c:Nat),c+m=n→Ev (fun k=>glidepathtop_TopCloudLayers.l1 k x0 x1 x2 (g++List.replicate c (rd_T27 x0 (i:Int)).f0) b y (i:Int) (c:Int)) true
 |0,c,hc=>by
  refine Ev.succ ?_;simp only[glidepathtop_TopCloudLayers.l1,show(0:Int)≤(i:Int) by omega,show(i:Int)<(x0.length:Int) by omega,if_true,hn,show ¬ (c:Int)<(n:Int) by omega,if_false,up (show i<4611686018427387904 by omega)];rw[show c=n by omega];exact h
 |m+1,c,hc=>by
  refine Ev.succ ?_;have hl:(g++List.replicate c (rd_T27 x0 (i:Int)).f0).length<17592186044416:=by simp;omega
  simp only[glidepathtop_TopCloudLayers.l1,show(0:Int)≤(i:Int) by omega,show(i:Int)<(x0.length:Int) by omega,if_true,hn,show(c:Int)<(n:Int) by omega,hl,up (show c<4611686018427387904 by omega)];have:=TL_l1 x0 x1 x2 b y i hi hi6 n hn hn4 g hg h m (c+1) (by omega);rw[List.replicate_succ', ←List.append_assoc]at this;exact this
def lm (r:S29):S42:=⟨100*r.f0,100*r.f1+100,5⟩
theorem lay_in (g:List Int) (hg:g.length≤24):∀ r∈lay g,0≤r.f0∧r.f0≤r.f1∧r.f1<24:=by
 intro r hr;have:=G_in_range _ _ _ r hr
 omega
theorem Lay_ge {p:Int→Bool} {gap:Int} (hg:0≤gap):∀ {l:List S29} {q:Int} {r:S29},Lay p gap (r::l) q→∀ s∈r::l,r.f0≤s.f0
 | [],q,r,_,s,hs=>by rcases List.mem_cons.mp hs with rfl|hs;exact Int.le_refl _;cases hs
 | t::l,q,r,h,s,hs=>by
  obtain⟨a,b,h1,h2,_,h4⟩:=h;have h5:=h4 t l rfl;have h6:=h1.2.1
  rcases List.mem_cons.mp hs with rfl|hs
  ·exact Int.le_refl _
  ·have:=Lay_ge hg h2 s hs
   omega
theorem lay_ge (g:List Int) (r:S29) (l:List S29) (h:lay g=r::l):∀ s∈r::l,r.f0≤s.f0:=by
 have:=G_lay (fun i=>decide (50≤rd g i)) 0 (Int.le_refl 0) g.length;unfold lay at h;rw[h]at this;exact Lay_ge (Int.le_refl 0) this
theorem W8_some {b:Int}:∀ {x:List S42},(∀ y∈x,y.f2=5)→(∃ y∈x,y.f0≤b)→5≤W8 b x
 | [],_,h=>by obtain⟨y,hy,_⟩:=h;cases hy
 | u::r,h5,h=>by
  have h1:=(W8_le b (x:=r) (fun y hy=>by rw[h5 y (List.mem_cons_of_mem _ hy)];omega)).1;have h2:=h5 u List.mem_cons_self;simp only[W8,h2]
  by_cases c:u.f0≤b
  ·rw [if_pos c];omega
  ·rw [if_neg c];obtain⟨y,hy,hyb⟩:=h
   rcases List.mem_cons.mp hy with rfl|hy
   ·exact absurd hyb c
   ·have:=W8_some (x:=r) (fun y hy=>h5 y (List.mem_cons_of_mem _ hy)) ⟨y,hy,hyb⟩
    omega
theorem mid3 (c f:Int):mid [c,f,c]=c:=by
 unfold mid
 show(isort [c,f,c]).getD ((2+1-1) / 2) 0=c
 rw[show (2+1-1) / 2=1 from rfl];refine(rank_iff (isort_sorted [c,f,c]) (i:=1) (by rw[isort_length];simp) c).mp ?_;rw[cl_perm (isort_perm [c,f,c]),cl_perm (isort_perm [c,f,c])];unfold cl;simp only[List.countP_cons,List.countP_nil]
 constructor
 ·simp only[show ¬ c<c by omega,decide_false,Bool.false_eq_true,if_false];split<;>omega
 ·simp only[show c<c+1 by omega,decide_true,if_true];omega
theorem TL_l2 (x2:Int) (h2:0≤x2∧x2≤20000) (g:List Int) (hg:g.length≤24) (h6:(lay g).length≤6) (h0:0<(lay g).length):∀ (n i:Nat),i+n=(lay g).length→
    Ev (fun k=>glidepathtop_TopCloudLayers.l2 k x2 (lay g) (lay g) (((lay g).take i).map lm).reverse (i:Int)) true
  | 0, i,h=>by
    have hi:i=(lay g).length:=by omega
    refine Ev.succ ?_;simp only[glidepathtop_TopCloudLayers.l2,show ¬ (i:Int)<((lay g).length:Int) by omega,if_false];rw[hi,List.take_length];have hin:=lay_in g hg
    cases hL:lay g with
    |nil=>rw[hL]at h0;simp at h0
    | cons r l=>
      have hge:=lay_ge g r l hL;rw[hL]at hin h6;have hmem:∀ y∈((r::l).map lm).reverse,∃ s∈r::l,y=lm s:=by
        intro y hy;rw[List.mem_reverse]at hy;obtain⟨s,hs,rfl⟩:=List.mem_map.mp hy;exact⟨s,hs,rfl⟩
      have h5:∀ y∈((r::l).map lm).reverse,y.f2=5:=by
        intro y hy;obtain⟨s,_,rfl⟩:=hmem y hy
        rfl
      have hr:lm r∈((r::l).map lm).reverse:=by rw[List.mem_reverse];exact List.mem_map.mpr ⟨r,List.mem_cons_self,rfl⟩
      have hlen:(((r::l).map lm).reverse).length≤10:=by rw[List.length_reverse,List.length_map];omega
      have hLE:laE (((r::l).map lm).reverse)=(0,0):=by
        unfold laE;rw[if_neg (by omega)];refine chk_of (fun y hy=>?_);obtain⟨s,hs,rfl⟩:=hmem y hy;have:=hin s hs;unfold lE lm;rw[if_pos (by simp only;omega),if_pos (by simp only;omega)]
      have hC:IsC (((r::l).map lm).reverse) 5 (100*r.f0):=by
        refine⟨⟨lm r,hr,rfl⟩,W8_some h5 ⟨lm r,hr,Int.le_refl _⟩,fun y hy _=>?_⟩;obtain⟨s,hs,rfl⟩:=hmem y hy;have:=hge s hs
        show 100*r.f0≤100*s.f0
        omega
      obtain⟨q,⟨_,_,q3⟩,q4⟩:=CeilingOf_ev (((r::l).map lm).reverse) 5 (by omega);have hq:=q3 (by rw[hLE]) (by unfold eE;rw[if_pos (by omega)]);have hq2:q=(100*r.f0,0):=by
        rcases hq with ⟨e,hq⟩|⟨_,hq⟩
        · exact Prod.ext (IsC_uniq hq hC) e
        · exact absurd hq (fun hq=>IsC_not hC hq)
      refine Ev.bind q4 ?_;rw[hq2];have hr0:=hin r List.mem_cons_self;have hM:=MiddleOf_ev [100*r.f0,x2,100*r.f0] (by simp);have hm:mE [100*r.f0,x2,100*r.f0]=0:=by
        unfold mE;rw[if_neg (by simp),if_neg (by simp),chk_of];intro x hx;simp only[List.mem_cons,List.not_mem_nil,or_false]at hx;unfold hE;rw[if_pos]
        rcases hx with rfl|rfl|rfl<;>omega
      rw[if_pos hm,mid3]at hM;refine Ev.bind hM ?_;have hrd:rd_T29 (r::l) 0=r:=rfl;simp only[if_true,List.length_cons,show(0:Int)<((l.length+1:Nat):Int) by omega,hrd,w64 (n:=100*r.f0) (by omega),beq_self_eq_true];exact Ev.some
  | n+1,i,h=>by
    have hi:i<(lay g).length:=by omega
    have ih:=TL_l2 x2 h2 g hg h6 h0 n (i+1) (by omega);have hin:=lay_in g hg _ (List.getElem_mem hi);refine Ev.succ ?_;have hl:([(⟨wrap64 (100*(rd_T29 (lay g) (i:Int)).f0),wrap64 (wrap64 (100*(rd_T29 (lay g) (i:Int)).f1)+100),5⟩:S42)]:List S42).length+((((lay g).take i).map lm).reverse).length<5864062014805:=by simp;omega
    simp only[glidepathtop_TopCloudLayers.l2,show(i:Int)<((lay g).length:Int) by omega,show(0:Int)≤(i:Int) by omega,if_true,Option.bind_some,hl,up (show i<4611686018427387904 by omega)];rw[List.take_succ_eq_append_getElem hi,List.map_append,List.reverse_append]at ih;rw[rdR_lt hi,w64 (n:=100*((lay g)[i]).f0) (by omega),w64 (n:=100*((lay g)[i]).f1) (by omega),w64 (n:=100*((lay g)[i]).f1+100) (by omega)];exact ih
theorem TL_end (x0:List S27) (x1 x2:Int) (h1:0≤x1∧x1≤100000) (h2:0≤x2∧x2≤20000) (st:List (Int×Nat)) (hS:Okk st) (h0:0<st.length) (h6:st.length≤6) (hL:(lay (gts st)).length≤st.length) (i:Int) (hi:¬ i<(x0.length:Int)):
  Ev (fun k=>glidepathtop_TopCloudLayers.l0 k x0 x1 x2 (gts st) (zs (bgs st 0)) (lay (gts st)) i) true:=by
 obtain⟨g1,g2,g3⟩:=gts_len hS.2;have hb:∀ x∈gts st,0≤x∧x≤10000:=fun x hx=>by have:=g3 x hx;omega
 have hp:(pE (gts st)).2=0:=by
  unfold pE;rw[if_neg (by omega),if_neg (by omega),chk_of];intro x hx;have:=g3 x hx;unfold sE;rw[if_pos (by omega)]
 have hbl:(zs (bgs st 0)).length=st.length:=by rw[zs_length,bgs_length]
 obtain⟨S,⟨s1,_⟩,hSe⟩:=SegmentsOf_ev (gts st) 0 (by omega);obtain⟨b,rfl,hB⟩:=s1 (by unfold two nE;rw[if_pos hp,if_pos (by omega)]);obtain⟨hc0,hbb⟩:=Best_steps hS.1 hb hB;rw[hc0,hbb]at hSe;obtain⟨T,⟨t1,_⟩,hTe⟩:=SegmentsOf_ev (gts st) x1 (by omega);obtain⟨a,rfl,hA⟩:=t1 (by unfold two nE;rw[if_pos hp,if_pos (by omega)]);obtain⟨a1,a2⟩:=Best_pen hS.1 hb h1.1 hA;have hLay:=LayersIn_ev (gts st) 50 0 1 (by omega);have hl0:lEY (gts st) 50 0 1=0:=by unfold lEY rEY;rw[if_pos hp,if_pos (by omega)]
 have hkeep:(fl (G (clY (gts st) 50) 0 (gts st).length)).filter (keep 1)=lay (gts st):=by
  have e:fl (G (clY (gts st) 50) 0 (gts st).length)=lay (gts st):=rfl;rw[e,List.filter_eq_self];intro r hr;have:=lay_in (gts st) (by omega) r hr;unfold keep;exact decide_eq_true (by omega)
 rw[if_pos hl0,hkeep]at hLay;have hpen:x1*(st.length:Int)≤100000*6∧0≤x1*(st.length:Int):=by
  constructor
  ·exact Int.le_trans (Int.mul_le_mul_of_nonneg_right h1.2 (by omega)) (Int.mul_le_mul_of_nonneg_left (by omega) (by omega))
  ·exact Int.mul_nonneg h1.1 (by omega)
 refine Ev.succ ?_;simp only[glidepathtop_TopCloudLayers.l0,hi,if_false,CopyInts_eq (gts st) (by omega),Option.bind_some];refine Ev.bind hSe ?_;refine Ev.bind hTe ?_;refine Ev.bind hLay ?_;simp only[if_true];refine Ev.bind (Ints_ev (zs (bgs st 0)) (by omega)) ?_;generalize hP:x1*(st.length:Int)=P at a1 hpen;simp only[if_true,hbl,zs_length,show ¬ (a.length:Int)>(st.length:Int) by omega,if_false,hP,w64 (n:=P) (by omega),show ¬ cst (gts st) x1 a (gts st).length>P by omega];refine Ev.bind (Ranges_ev (lay (gts st)) (by omega)) ?_;refine Ev.succ ?_;simp only[glidepathtop_TopCloudLayers.j5,Bool.not_true,Bool.false_eq_true,if_false]
 by_cases hz:(lay (gts st)).length=0
 ·simp only[hz,show((0:Nat):Int)=0 from rfl,if_true];exact Ev.some
 ·simp only[show ¬ ((lay (gts st)).length:Int)=0 by omega,if_false];exact TL_l2 x2 h2 (gts st) (by omega) (by omega) (by omega) (lay (gts st)).length 0 (by omega)
theorem lay_last {g:List Int} (hn:0<(lay g).length):∃ b r,G (fun i=>decide (50≤rd g i)) 0 g.length=some (b,r)∧lay g=b++ [r]:=by
  unfold lay at hn ⊢
  cases e:G (fun i=>decide (50≤rd g i)) 0 g.length with
  |none=>rw[e]at hn;simp[fl]at hn
  |some s=>exact⟨s.1,s.2,rfl,rfl⟩
theorem TL_l0 (x0:List S27) (x1 x2:Int) (h1:0≤x1∧x1≤100000) (h2:0≤x2∧x2≤20000) (h0:0<x0.length) (h6:x0.length≤6):∀ (n i:Nat),i+n=x0.length→Okk (sps x0 i)→(lay (gts (sps x0 i))).length≤i→
  Ev (fun k=>glidepathtop_TopCloudLayers.l0 k x0 x1 x2 (gts (sps x0 i)) (zs (bgs (sps x0 i) 0)) (lay (gts (sps x0 i))) (i:Int)) true
 |0,i,h,hS,hL=>TL_end x0 x1 x2 h1 h2 (sps x0 i) hS (by rw[sps_length (by omega)];omega) (by rw[sps_length (by omega)];omega) (by rw[sps_length (by omega)];exact hL) (i:Int) (by omega)
 | n +1,i,h,hS,hL=>by
  have hi:i<x0.length:=by omega
  have hskip:∀ (a b:List Int) (c:List S29),Ev (fun k=>glidepathtop_TopCloudLayers.j2 k x0 x1 x2 a b c (i:Int) true) true:=by
   intro a b c;refine Ev.succ ?_;simp only[glidepathtop_TopCloudLayers.j2,if_true];exact Ev.some
  obtain⟨g1,g2,g3⟩:=gts_len hS.2;have hsl:=sps_length (x:=x0) (i:=i) (by omega);rw[hsl]at g1 g2;generalize hst:sps x0 i=st at *;refine Ev.succ ?_;simp only[glidepathtop_TopCloudLayers.l0,show(i:Int)<(x0.length:Int) by omega,show(0:Int)≤(i:Int) by omega,if_true,Within_eq,Option.bind_some,decide_eq_true_eq]
  by_cases c1:0≤(rd_T27 x0 (i:Int)).f0∧(rd_T27 x0 (i:Int)).f0≤100
  rotate_left
  ·simp only[c1,if_false];exact hskip _ _ _
  by_cases c2:1≤(rd_T27 x0 (i:Int)).f1∧(rd_T27 x0 (i:Int)).f1≤4
  rotate_left
  ·simp only[c1,c2,and_self,if_true,if_false];exact hskip _ _ _
  simp only[c1,c2,and_self,if_true];obtain⟨m,hm⟩:∃ m:Nat,(rd_T27 x0 (i:Int)).f1=((m+1:Nat):Int):=⟨(rd_T27 x0 (i:Int)).f1.toNat-1,by omega⟩
  -- what the step does
  have go:(∀ r u q,st=r++ [(u,q)]→u≠(rd_T27 x0 (i:Int)).f0)→Ev (fun k=>glidepathtop_TopCloudLayers.j2 k x0 x1 x2 (gts st) (zs (bgs st 0)) (lay (gts st)) (i:Int) false) true:=by
   intro hne;have hs:=sps_succ hi;rw[hst,hm,Int.toNat_natCast]at hs;have hS':Okk (sps x0 (i+1)):=by
    rw[hs];refine⟨Stp_snoc hS.1 (by omega) hne,fun p hp=>?_⟩
    rcases List.mem_append.mp hp with hp|hp
    ·exact hS.2 p hp
    ·rw [List.mem_singleton.mp hp];exact⟨c1,by show 1≤m+1;omega,by show m+1≤4;omega⟩
   have hg:gts (sps x0 (i+1))=gts st++List.replicate (m+1) (rd_T27 x0 (i:Int)).f0:=by
    rw[hs,gts_append];simp[gts]
   have hbg:zs (bgs (sps x0 (i+1)) 0)=zs (bgs st 0)++ [((gts st).length:Int)]:=by
    rw[hs,bgs_append,Nat.zero_add,zs_append];rfl
   have hL':(lay (gts (sps x0 (i+1)))).length≤i+1:=by
    rw[hg];have:=lay_len (gts st) (rd_T27 x0 (i:Int)).f0 m;omega
   have ih:=TL_l0 x0 x1 x2 h1 h2 h0 h6 n (i+1) (by omega) hS' hL';rw[hbg]at ih;have j3:∀ y,y=lay (gts (sps x0 (i+1)))→Ev (fun k=>glidepathtop_TopCloudLayers.j3 k x0 x1 x2 (gts st) (zs (bgs st 0)++ [((gts st).length:Int)]) y (i:Int)) true:=by
    intro y hy;refine Ev.succ ?_;simp only[glidepathtop_TopCloudLayers.j3];have:=TL_l1 x0 x1 x2 (zs (bgs st 0)++ [((gts st).length:Int)]) y i hi (by omega) (m+1) hm (by omega) (gts st) (by omega) (by rw[hy, ←hg];exact ih) (m+1) 0 (by omega)
    simpa using this
   have hlay:=lay_step (gts st) (rd_T27 x0 (i:Int)).f0 m;rw[← hg]at hlay;refine Ev.succ ?_;have hz:(zs (bgs st 0)).length<17592186044416:=by rw[zs_length,bgs_length];omega
   simp only[glidepathtop_TopCloudLayers.j2,Bool.false_eq_true,if_false,hz,if_true,Option.bind_some,show(0:Int)≤(i:Int) by omega,show(i:Int)<(x0.length:Int) by omega,ge_iff_le];have hw1:wrap64 (((gts st).length:Int)-1)=((gts st).length:Int)-1:=w64 (by omega);have hw2:wrap64 (wrap64 (((gts st).length:Int)+(rd_T27 x0 (i:Int)).f1)-1)=((gts st).length:Int)+((m+1:Nat):Int)-1:=by rw[hm,w64 (n:=((gts st).length:Int)+((m+1:Nat):Int)) (by omega),w64 (by omega)]
   by_cases c3:50≤(rd_T27 x0 (i:Int)).f0
   ·rw [if_pos c3]at hlay;simp only[c3,if_true];have hll:(lay (gts st)).length<8796093022208:=by omega
    by_cases c4:0<(lay (gts st)).length
    ·obtain ⟨b,r,e1,e2⟩:=lay_last c4;rw[e1]at hlay;have hbl:b.length<1000:=by rw[e2]at hL;simp at hL;omega
     have hw3:wrap64 (((lay (gts st)).length:Int)-1)=(b.length:Int):=by rw[e2];exact len_snoc b r hbl
     have hrl:rd_T29 (lay (gts st)) (b.length:Int)=r:=by rw[e2];exact rd_snoc b r
     simp only[show ((lay (gts st)).length:Int)>0 by omega,if_true,hw3,show(0:Int)≤(b.length:Int) by omega,show(b.length:Int)<((lay (gts st)).length:Int) by rw[e2];simp;omega,hrl,hw1,hw2,hll]
     by_cases c5:r.f1=((gts st).length:Int)-1
     ·simp only[c5,if_true];refine j3 _ ?_;rw[hlay];simp only[stepC,c5,if_true,fl];rw[e2,Int.toNat_natCast,set_snoc]
     ·simp only[c5,if_false];refine j3 _ ?_;rw[hlay];simp only[stepC,c5,if_false,fl];rw[e2]
    ·simp only[show ¬ ((lay (gts st)).length:Int)>0 by omega,if_false,hll,if_true,hw2];refine j3 _ ?_;have e0:lay (gts st)=[]:=List.length_eq_zero_iff.mp (by omega);have e1:G (fun i=>decide (50≤rd (gts st) i)) 0 (gts st).length=none:=by
      cases e:G (fun i=>decide (50≤rd (gts st) i)) 0 (gts st).length with
      |none=>rfl
      |some s=>unfold lay at e0;rw[e]at e0;simp[fl]at e0
     rw[hlay,e0,e1];simp only[stepC,fl,List.nil_append]
   ·rw [if_neg c3]at hlay;simp only[c3,if_false];exact j3 _ hlay.symm
  by_cases c0:(i:Int)>0
  ·obtain ⟨j,rfl⟩:∃ j,i=j+1:=⟨i-1,by omega⟩;have hw:wrap64 (((j+1:Nat):Int)-1)=(j:Int):=by rw[w64 (by omega)];omega
   simp only[c0,if_true,hw,show(0:Int)≤(j:Int) by omega,show(j:Int)<(x0.length:Int) by omega]
   by_cases c3:(rd_T27 x0 ((j+1:Nat):Int)).f0=(rd_T27 x0 (j:Int)).f0
   ·simp only[c3,beq_self_eq_true];exact hskip _ _ _
   ·rw [show ((rd_T27 x0 ((j+1:Nat):Int)).f0==(rd_T27 x0 (j:Int)).f0)=false from beq_eq_false_iff_ne.mpr c3];refine go (fun r u q e=>?_);have hs:=sps_succ (x:=x0) (i:=j) (by omega);rw[hst]at hs;rw[hs]at e;have:=List.append_inj_right' e rfl
    injection this with t1
    injection t1 with t2 t3
    rw[← t2];exact fun h=>c3 h.symm
  ·simp only[c0,if_false];refine go (fun r u q e=>?_);have:i=0:=by omega
   subst this;have:st=[]:=by rw[← hst];rfl
   rw[this]at e
   cases r<;>cases e
theorem TopCloudLayers_ev (x0:List S27) (x1 x2:Int):Ev (fun k=>glidepathtop_TopCloudLayers.f k x0 x1 x2) true:=by
 unfold glidepathtop_TopCloudLayers.f;refine Ev.bind shown_ev ?_;have hskip:Ev (fun k=>glidepathtop_TopCloudLayers.j0 k x0 x1 x2 true) true:=by
  refine Ev.succ ?_;simp only[glidepathtop_TopCloudLayers.j0,if_true];exact Ev.some
 simp only[if_true,Within_eq,Option.bind_some,decide_eq_true_eq]
 by_cases c0:(x0.length:Int)=0
 ·simp only[c0,if_true];exact hskip
 simp only[c0,if_false]
 by_cases c6:(x0.length:Int)>6
 ·simp only[c6,if_true];exact hskip
 simp only[c6,if_false]
 by_cases h1:0≤x1∧x1≤100000
 rotate_left
 ·simp only[h1,if_false];exact hskip
 simp only[h1,and_self,if_true]
 by_cases h2:0≤x2∧x2≤20000
 rotate_left
 ·simp only[h2,decide_false,Bool.not_false];exact hskip
 simp only[h2,and_self,decide_true,Bool.not_true];refine Ev.succ ?_;simp only[glidepathtop_TopCloudLayers.j0,Bool.false_eq_true,if_false];exact TL_l0 x0 x1 x2 h1 h2 (by omega) (by omega) x0.length 0 (by omega) ⟨trivial,fun p hp=>by cases hp⟩ (Nat.le_refl 0)
theorem TopCloudLayers_pure (l:List S27) (_:l.length≤maxLen∧∀ x∈l,(Lit.int .i64 x.f0).wf=true∧(Lit.int .i64 x.f1).wf=true) (a:Int) (_:(Lit.int .i64 a).wf=true) (b:Int) (_:(Lit.int .i64 b).wf=true):∃ k,glidepathtop_TopCloudLayers.f k l a b=some true:=(TopCloudLayers_ev l a b).ex
end Go.Proofs.Ytggiijffaifajaa.P
