/- Walks of the program's functions (printed, made shorter), each with what it computes. -/
import Derived.Test.YtggiijffaifajaaProg
import Derived.Test.YtggiijffaifajaaT05
import Derived.LoopIn
import Derived.LoopNIn
import Derived.OwnWalkIn
import Derived.RangeFuncBound
import Derived.RangeFuncBox
import Derived.RangeFuncCalls
import Derived.RangeFuncFrom
import Derived.RangeFuncLeaves
import Derived.RangeFuncNested
import Derived.Shelf.Abstract
import Derived.TacticsInMore
namespace Go.Proofs.Ytggiijffaifajaa.A
set_option maxHeartbeats 8000000
set_option maxRecDepth 100000
open Go.RowKit Go.Proofs.YtggiijffaifajaaW.PrintWords Go.Proofs.YtggiijffaifajaaW.PrintLast Go.Proofs.YtggiijffaifajaaW.PrintMore
attribute [local go_sem] max2_int min2_int max_two min_two max_three min_three max_four min_four
set_option linter.unusedVariables false
set_option linter.unusedSimpArgs false
section
def errW:Option Int→Value
  |none=> .nilIface
  |some c=> .iface 0 (.int .i64 c)
theorem errW_none:errW none= .nilIface:=rfl
theorem errW_some (c:Int):errW (some c)= .iface 0 (.int .i64 c):=rfl
theorem goesV_ {P:Program} {ops:Array Oper} {Q:Exit→Act→World→Prop} {oi:Oper} {N:Option Tmp} {a:Act} {w:World} {K:Act→World→Prop} {f:FuncId} {fn:Func} {av:Array Operand} {ts:Array TypeId} (t:Tmp) (hf:P.funcs[f]?=some fn) (hname:(fn.name== "runtime.NumGoroutine")=false) (hb:fn.body.isSome=true) (args:Array Value)
    (hw:Region.wanted oi (yielded ops a.tmps)=true) (hN:oi.dst=N) (hop:oi.op= .call {callee:= .value (.tmp t),args:=av,argTypes:=ts }) (ht:a.tmps[t]?=some (.func (.func f) #[] #[])) (hargs:av.map a.eval=args)
    (h:Calls P f args w fun e w'=>∃ v,e= .returned v∧K (a.put N v) w'):if Region.wanted oi (yielded ops a.tmps)=true then Oper.wp P oi a w K Q else K (a.put N undef) w:=by
  refine call_ f args hw hN ?_ h;have he:=enters_ hf hname hb args w;unfold execOp
  simp[hop,resolve,Deferred.ofValue,invoke,Act.eval,hargs,he,ht]
section
variable {P:Program} {d n i:Nat} {e:TypeId} {xs ys:Array Value} {is:List Nat} {a b:Value} {r s:Bool} {w:World}
end
section
variable {P:Program} {ops:Array Oper} {rest:List Oper} {o:Oper} {a:Act} {Q:Exit→Act→World→Prop} {Kc:Act→World→Prop}
end
theorem cut_full {P:Program} (t e:TypeId) {i:TypeInfo} (ht:P.underlying t=some (.slice e)) (hi:P.info? e=some i) (A:Option Addr) (n c:Nat) (hc:n≤c):
    ∀ W:World,(Instr.slice t (.slice A n c) none (some (.int .i64 (n:Int))) (some (.int .i64 (n:Int)))).run P W= .ok (.slice A n n) W:=by
  intro W;have hel:P.elem t=e:=by simp[Program.elem,ht]
  have ha:(A.map fun x=>x.add 0)=A:=by cases A<;>simp[Addr.add]
  simp[Instr.slice,run_underlying ht,Instr.sliceBounds,run_sliceBound,sliced,hel,sizeOf,typeInfo,hi,Result.andThen,ha,hc]
theorem full_rows_run {P:Program} {k:IntKind} {W:World} {A B:Option Addr} {n m c:Nat} {xs ys:List Int} (t ty e:TypeId) (z:Value) (bytes:Nat)
    (ht:P.underlying t=some (.slice e)) (hinfo:(P.info? e).map (fun i=>(i.zero,i.size,i.bytes))=some (some z,1,bytes)) (hz:z.cells.size=1) (hb0:0<bytes)
    (HR:Kd.C (Kd.int k) W A n xs) (HR2:Kd.C (Kd.int k) W B m ys) (hy:ys≠ []) (hl:(xs.length+ys.length)*bytes≤140737488355328):
    ∃ v1 w1,(Builtin.append_ #[t,t] ty #[.slice A n n,.slice B m c]).run P W= .ok v1 w1∧w1.ownsRow W.heap.size e 1 v1 (xs++ys).length (encs (Value.int k) (xs++ys))∧W.grownBy w1 none:=by
  obtain ⟨i0,hi,hzz⟩:=Option.map_eq_some_iff.1 hinfo;simp only[Prod.mk.injEq]at hzz;obtain⟨hz0,hz1,hz2⟩:=hzz;have hn:xs.length=n:=HR.1;have hm:ys.length=m:=HR2.1;have hyl:0<ys.length:=List.length_pos_iff.2 hy;have hlen:xs.length+ys.length≤140737488355328:=Nat.le_trans (Nat.le_mul_of_pos_right _ hb0) hl;have flat:∀ {C:Option Addr} {q:Nat} {zs:List Int},Kd.C (Kd.int k) W C q zs→0<q→∃ ad,C=some ad∧∀ j u,(encs (Value.int k) zs)[j]?=some u→W.cell? (ad.add j)=some u:=by
    intro C q zs h hq;obtain⟨ad,rfl,_⟩:=h.2.2 hq;obtain⟨olds,hnr,hnc⟩:=ReadsRow.inner_ h;have ho:olds=encs (Value.int k) zs:=by
      apply List.ext_getElem?
      intro j
      by_cases hj:j<zs.length
      · have:=hnr.2 j _ (List.getElem?_eq_getElem hj);have h1:(olds.drop (j*1)).take 1=[Value.int k zs[j]]:=this;have h2:olds[j]?=some (Value.int k zs[j]):=by
          have h3:=congrArg (fun l=>l[0]?) h1
          simpa [List.getElem?_take,List.getElem?_drop]using h3
        rw[h2]
        simp[encs,List.getElem?_eq_getElem hj]
      · have hol:olds.length=zs.length:=by have h_:=hnr.1;rw[h_];exact Nat.mul_one _
        rw[List.getElem?_eq_none (by omega),List.getElem?_eq_none (by simp[encs];omega)]
    exact⟨ad,rfl,fun j u hj=>hnc j u (by rw[ho];exact hj)⟩
  obtain⟨bd,rfl,hnew⟩:=flat HR2 (by omega);have hone:∀ u∈encs (Value.int k) ys,u.oneCell'=true:=by
    intro u hu;obtain⟨x,_,rfl⟩:=List.mem_map.1 hu
    rfl
  rcases Nat.eq_zero_or_pos n with h0|hp
  · obtain rfl:xs=[]:=List.eq_nil_of_length_eq_zero (by omega);subst h0
    rcases A with _|ad
    · obtain⟨v',w',hrun,hown,hg,_⟩:=run_append_own (P:=P) W W.heap.size t ty e i0 z 1 bytes ht hi hz0 hz1 hz2 hz (by decide) (.slice none 0 0) 0 [] ⟨rfl,.inl ⟨rfl,rfl⟩⟩ bd m c (encs (Value.int k) ys) (by simp[encs,hm]) hnew hone (by simp only[maxLen];simp at hlen;omega) (by simpa [hm]using hl) (Nat.le_refl _);exact⟨v',w',hrun,by simpa [encs,hm]using hown,hg⟩
    · obtain⟨v',w',hrun,hown,hg⟩:=run_append_arg_grows (P:=P) W t ty e i0 z 1 bytes ht hi hz0 hz1 hz2 hz (by decide) ad 0 0 [] rfl (fun j u hj=>by simp at hj) bd m c (encs (Value.int k) ys) (by simp[encs,hm]) hnew (by omega) (by simp only[maxLen];simp at hlen;omega) (by simpa [hm]using hl);exact⟨v',w',hrun,by simpa [encs,hm]using hown,hg⟩
  · obtain⟨ad,rfl,hold⟩:=flat HR hp;obtain⟨v',w',hrun,hown,hg⟩:=run_append_arg_grows (P:=P) W t ty e i0 z 1 bytes ht hi hz0 hz1 hz2 hz (by decide) ad n n (encs (Value.int k) xs) (by simp[encs,hn]) hold bd m c (encs (Value.int k) ys) (by simp[encs,hm]) hnew (by omega) (by simp only[maxLen];omega) (by rw[← hn, ←hm];exact hl);exact⟨v',w',hrun,by simpa [encs,hn,hm]using hown,hg⟩
theorem full_rows_row {k:IntKind} {W w0:World} {base:Nat} {ok:Nat→Prop} {xs:List Int} {e:TypeId} {v1:Value} {w1:World} (hx:xs≠ []) (hfresh:∀ k,W.heap.size≤k→ok k) (HB:Below base w0 W) (hbase:base≤W.heap.size)
    (hown:w1.ownsRow W.heap.size e 1 v1 xs.length (encs (Value.int k) xs)) (hg:W.grownBy w1 none):
    Kd.R (Kd.int k) e w1 base ok v1 xs∧Below base w0 w1∧W.grownBy w1 (Value.slice none 0 0).ownBlock∧(v1.ownBlock=(Value.slice none 0 0).ownBlock∨∃ b,v1.ownBlock=some b∧W.heap.size≤b):=by
  have hb:∃ b,v1.ownBlock=some b∧W.heap.size≤b:=by
    rcases hown.2 with ⟨_,h0⟩|⟨g,cap,cur,rfl,hb,_⟩
    · exact absurd (List.eq_nil_of_length_eq_zero h0) hx
    · exact⟨g,rfl,hb⟩
  refine⟨Kd.R_of_own (enc:=Value.int k) (own_weaken hown hbase) (fun j hj=>?_),HB.grown hg hbase (fun j hj=>by cases hj),hg,.inr hb⟩;obtain⟨b,h1,h2⟩:=hb;rw[h1]at hj
  injection hj with hj
  exact hfresh j (by omega)
section
variable {P:Program} {ops:Array Oper} {rest:List Oper} {o:Oper} {a:Act} {Q:Exit→Act→World→Prop} {Kc:Act→World→Prop}
theorem Kd.R_append_full_rows_step (k:IntKind) {w0 W:World} (base:Nat) (hw:Region.wanted o (yielded ops a.tmps)=true) (s x:Operand) (t e:TypeId) (z:Value) (bytes:Nat)
    (ho:o.op= .call {callee:= .builtin .append,args:= #[s,x],argTypes:= #[t,t] })
    (ht:P.underlying t=some (.slice e)) (hinfo:(P.info? e).map (fun i=>(i.zero,i.size,i.bytes))=some (some z,1,bytes)) (hz:z.cells.size=1) (hb0:0<bytes)
    (A:Option Addr) (n:Nat) (xs ys:List Int) (vx:Value) (ok:Nat→Prop) {okx:Nat→Prop} {bx:Nat} (hs:a.eval s= .slice A n n) (hx:a.eval x=vx)
    (HR:Kd.C (Kd.int k) W A n xs) (HOx:Kd.R (Kd.int k) e W bx okx vx ys) (hy:ys≠ []) (hfresh:∀ k,W.heap.size≤k→ok k) (HB:Below base w0 W) (hbase:base≤W.heap.size) (hl:(xs.length+ys.length)*bytes≤140737488355328)
    (h:∀ v1 w1,Kd.R (Kd.int k) e w1 base ok v1 (xs++ys)→Below base w0 w1→W.grownBy w1 (Value.slice none 0 0).ownBlock→(v1.ownBlock=(Value.slice none 0 0).ownBlock∨∃ b,v1.ownBlock=some b∧W.heap.size≤b)→Kc (a.put o.dst v1) w1):
    if Region.wanted o (yielded ops a.tmps)=true then Oper.wp P o a W Kc Q else Kc (a.put o.dst undef) W:=by
  obtain⟨B,c,rfl,hc,HR2⟩:=Kd.R_reads HOx;obtain⟨v1,w1,hr1,hown,hg⟩:=full_rows_run (c:=c) t o.type e z bytes ht hinfo hz hb0 HR HR2 hy hl;obtain⟨h1,h2,h3,h4⟩:=full_rows_row (ok:=ok) (by simp[hy]) hfresh HB hbase hown hg;rw[if_pos hw];unfold Oper.wp execOp;simp only[ho,resolve,invoke,builtin,Sem.run_bind,Sem.run_pure,Result.andThen_ok,List.map_toArray,List.map_cons,List.map_nil,hs,hx,hr1];exact h v1 w1 h1 h2 h3 h4
end
def ins (x:Int):List Int→List Int
  | []=> [x]
  |y::t=>if x≤y then x::y::t else y::ins x t
def isort:List Int→List Int
  | []=> []
  |x::r=>ins x (isort r)
theorem ins_perm (x:Int):∀ l:List Int,(ins x l).Perm (x::l)
  | []=>List.Perm.refl _
  | y::t=>by
    unfold ins
    split
    · exact List.Perm.refl _
    · exact((ins_perm x t).cons y).trans (List.Perm.swap x y t)
theorem isort_perm:∀ l:List Int,(isort l).Perm l
  | []=>List.Perm.refl _
  |x::r=>(ins_perm x (isort r)).trans ((isort_perm r).cons x)
theorem ins_sorted (x:Int):∀ l:List Int,l.Pairwise (fun a b=>a≤b)→(ins x l).Pairwise (fun a b=>a≤b)
  | [],_=>List.pairwise_singleton _ _
  | y ::t,h=>by
    unfold ins;obtain⟨h1,h2⟩:=List.pairwise_cons.1 h
    split
    · rename_i hxy
      refine List.pairwise_cons.2 ⟨fun z hz=>?_,h⟩
      rcases List.mem_cons.1 hz with rfl|hz
      · exact hxy
      · exact Int.le_trans hxy (h1 z hz)
    · rename_i hxy
      refine List.pairwise_cons.2 ⟨fun z hz=>?_,ins_sorted x t h2⟩
      rcases List.mem_cons.1 ((ins_perm x t).mem_iff.1 hz)with rfl|hz
      · omega
      · exact h1 z hz
theorem isort_sorted:∀ l:List Int,(isort l).Pairwise (fun a b=>a≤b)
  | []=>List.Pairwise.nil
  |x::r=>ins_sorted x _ (isort_sorted r)
theorem isort_eq (l:List Int):isort l=l.mergeSort fun x y=>decide (x≤y):=by
  refine List.Perm.eq_of_pairwise (le:=fun a b=>a≤b) (fun a b _ _ h1 h2=>by omega) (isort_sorted l) ?_ ((isort_perm l).trans (List.mergeSort_perm _ _).symm);exact(List.pairwise_mergeSort (le:=fun x y:Int=>decide (x≤y)) (fun a b c h1 h2=>by simp only[decide_eq_true_eq]at *;omega) (fun a b=>by simp only[Bool.or_eq_true,decide_eq_true_eq];omega) l).imp (fun h=>of_decide_eq_true h)
theorem info3:(Try.prog.info? 3).map (fun i=>(i.zero,i.size,i.bytes))=some (some (.int .i64 0),1,8):=by kernel_rfl
theorem info29:(Try.prog.info? 29).map (fun i=>(i.zero,i.size,i.bytes))=some (some (.agg #[(.int .i64 0),(.int .i64 0)]),2,16):=by kernel_rfl
theorem info42:(Try.prog.info? 42).map (fun i=>(i.zero,i.size,i.bytes))=some (some (.agg #[(.int .i64 0),(.int .i64 0),(.int .i64 0)]),3,24):=by kernel_rfl
theorem info53:(Try.prog.info? 53).map (fun i=>(i.zero,i.size,i.bytes))=some (some (.agg #[(.int .i64 0),(.int .i64 0)]),2,16):=by kernel_rfl
theorem info58:(Try.prog.info? 58).map (fun i=>(i.zero,i.size,i.bytes))=some (some (.agg #[(.int .i64 0),(.slice none 0 0)]),2,32):=by kernel_rfl
structure S42 where
  f0:Int
  f1:Int
  f2:Int
def z42:S42:=⟨(0:Int),(0:Int),(0:Int)⟩
def k42:Kd S42:=Kd.iso (Kd.pair (Kd.int .i64) (Kd.pair (Kd.int .i64) (Kd.int .i64))) (fun x:S42=>(x.f0,x.f1,x.f2))
theorem k42_open {w:World} {x:S42} {cs:List Value} (h:k42.K w x cs):cs=[.int .i64 x.f0,.int .i64 x.f1,.int .i64 x.f2]:=by
  obtain⟨_,_,rfl,rfl,⟨_,_,rfl,rfl,rfl⟩⟩:=h;exact rfl
theorem k42_openM {w:World} {base:Nat} {ok:Nat→Prop} {x:S42} {cs:List Value} (h:k42.M w base ok x cs):cs=[.int .i64 x.f0,.int .i64 x.f1,.int .i64 x.f2]:=by
  obtain⟨_,_,rfl,rfl,⟨_,_,rfl,rfl,rfl⟩⟩:=h;exact rfl
theorem k42_mkM (w:World) (base:Nat) (ok:Nat→Prop) (x:S42)  :k42.M w base ok x [.int .i64 x.f0,.int .i64 x.f1,.int .i64 x.f2]:=⟨[.int .i64 x.f0],[.int .i64 x.f1,.int .i64 x.f2],rfl,rfl,⟨[.int .i64 x.f1],[.int .i64 x.f2],rfl,rfl,rfl⟩⟩
def rd_T42 (xs:List S42) (i:Int):S42:=xs.getD i.toNat z42
theorem at_T42 {w:World} {A:Option Addr} {n:Nat} {xs:List S42} (h:Kd.C k42 w A n xs) (i:Int) (h0:0≤i) (h1:i<n):∃ ad,A=some ad∧w.cell? (ad.add (i.toNat*3))=some (.int .i64 (rd_T42 xs i).f0)∧w.cell? ⟨(ad.add (i.toNat*3)).block,(ad.add (i.toNat*3)).off+1,none⟩=some (.int .i64 (rd_T42 xs i).f1)∧w.cell? ⟨(ad.add (i.toNat*3)).block,(ad.add (i.toNat*3)).off+2,none⟩=some (.int .i64 (rd_T42 xs i).f2):=by
  obtain⟨ad,c,e,_,hK,hc0⟩:=Kd.C_get h z42 i h0 h1;have hc:∀ j u,c[j]?=some u→w.cell? (ad.add (i.toNat*3+j))=some u:=hc0;obtain rfl:=k42_open hK;exact⟨ad,e,hc 0 _ rfl,by rw[← add_field _ _ 1 (by omega)];exact hc 1 _ rfl,by rw[← add_field _ _ 2 (by omega)];exact hc 2 _ rfl⟩
structure S53 where
  f0:Int
  f1:Int
def z53:S53:=⟨(0:Int),(0:Int)⟩
def k53:Kd S53:=Kd.iso (Kd.pair (Kd.int .i64) (Kd.int .i64)) (fun x:S53=>(x.f0,x.f1))
theorem k53_open {w:World} {x:S53} {cs:List Value} (h:k53.K w x cs):cs=[.int .i64 x.f0,.int .i64 x.f1]:=by
  obtain⟨_,_,rfl,rfl,rfl⟩:=h;exact rfl
theorem k53_mkM (w:World) (base:Nat) (ok:Nat→Prop) (x:S53)  :k53.M w base ok x [.int .i64 x.f0,.int .i64 x.f1]:=⟨[.int .i64 x.f0],[.int .i64 x.f1],rfl,rfl,rfl⟩
def rd_T53 (xs:List S53) (i:Int):S53:=xs.getD i.toNat z53
theorem at_T53 {w:World} {A:Option Addr} {n:Nat} {xs:List S53} (h:Kd.C k53 w A n xs) (i:Int) (h0:0≤i) (h1:i<n):∃ ad,A=some ad∧w.cell? (ad.add (i.toNat*2))=some (.int .i64 (rd_T53 xs i).f0)∧w.cell? ⟨(ad.add (i.toNat*2)).block,(ad.add (i.toNat*2)).off+1,none⟩=some (.int .i64 (rd_T53 xs i).f1):=by
  obtain⟨ad,c,e,_,hK,hc0⟩:=Kd.C_get h z53 i h0 h1;have hc:∀ j u,c[j]?=some u→w.cell? (ad.add (i.toNat*2+j))=some u:=hc0;obtain rfl:=k53_open hK;exact⟨ad,e,hc 0 _ rfl,by rw[← add_field _ _ 1 (by omega)];exact hc 1 _ rfl⟩
structure S58 where
  f0:Int
  f1:(List Int)
def z58:S58:=⟨(0:Int),([]:List Int)⟩
def k58:Kd S58:=Kd.iso (Kd.pair (Kd.int .i64) (Kd.slice 3 (Kd.int .i64))) (fun x:S58=>(x.f0,x.f1))
theorem k58_open {w:World} {x:S58} {cs:List Value} (h:k58.K w x cs):∃ A1 c1,cs=[.int .i64 x.f0,.slice A1 x.f1.length c1]∧x.f1.length≤c1∧(Kd.int .i64).C w A1 x.f1.length x.f1:=by
  obtain⟨_,_,rfl,rfl,⟨A1,c1,rfl,l1,g1⟩⟩:=h;exact⟨A1,c1,rfl,l1,g1⟩
theorem k58_mk (w:World) (x:S58) {A1:Option Addr} {c1:Nat} (l1:x.f1.length≤c1) (g1:(Kd.int .i64).C w A1 x.f1.length x.f1):k58.K w x [.int .i64 x.f0,.slice A1 x.f1.length c1]:=⟨[.int .i64 x.f0],[.slice A1 x.f1.length c1],rfl,rfl,⟨A1,c1,rfl,l1,g1⟩⟩
theorem k58_openF {W:World} {ok:Nat→Prop} {x:S58} {cs:List Value} (h:Kd.FK k58 W ok x cs):∃ A1 c1,cs=[.int .i64 x.f0,.slice A1 x.f1.length c1]∧x.f1.length≤c1∧Kd.F (Kd.int .i64) W ok A1 x.f1.length x.f1:=by
  obtain⟨A1,c1,rfl,l1,_⟩:=k58_open (Kd.FK_now h);exact⟨A1,c1,rfl,l1,(fun W' hW=>by obtain⟨A1_,c1_,he,l1_,g1_⟩:=k58_open (h W' hW);injection (Option.some.inj (show some (Value.slice A1 x.f1.length c1)=some (Value.slice A1_ x.f1.length c1_)from congrArg (fun l=>l[1]?) he))with ha_ _ _;rw[ha_];exact g1_)⟩
theorem k58_mkF (W:World) (ok:Nat→Prop) (x:S58) {A1:Option Addr} {c1:Nat} (l1:x.f1.length≤c1) (g1:Kd.F (Kd.int .i64) W ok A1 x.f1.length x.f1):Kd.FK k58 W ok x [.int .i64 x.f0,.slice A1 x.f1.length c1]:=fun W2 hW=>k58_mk W2 x l1 (g1 W2 hW)
def rd_T58 (xs:List S58) (i:Int):S58:=xs.getD i.toNat z58
theorem at_T58 {w:World} {A:Option Addr} {n:Nat} {xs:List S58} (h:Kd.C k58 w A n xs) (i:Int) (h0:0≤i) (h1:i<n):∃ ad A1 c1,A=some ad∧w.cell? (ad.add (i.toNat*2))=some (.int .i64 (rd_T58 xs i).f0)∧w.cell? ⟨(ad.add (i.toNat*2)).block,(ad.add (i.toNat*2)).off+1,none⟩=some (.slice A1 (rd_T58 xs i).f1.length c1)∧(rd_T58 xs i).f1.length≤c1∧(Kd.int .i64).C w A1 (rd_T58 xs i).f1.length (rd_T58 xs i).f1:=by
  obtain⟨ad,c,e,_,hK,hc0⟩:=Kd.C_get h z58 i h0 h1;have hc:∀ j u,c[j]?=some u→w.cell? (ad.add (i.toNat*2+j))=some u:=hc0;obtain⟨A1,c1,rfl,l1,g1⟩:=k58_open hK;exact⟨ad,A1,c1,e,hc 0 _ rfl,by rw[← add_field _ _ 1 (by omega)];exact hc 1 _ rfl,l1,g1⟩
structure S29 where
  f0:Int
  f1:Int
def z29:S29:=⟨(0:Int),(0:Int)⟩
def k29:Kd S29:=Kd.iso (Kd.pair (Kd.int .i64) (Kd.int .i64)) (fun x:S29=>(x.f0,x.f1))
theorem k29_open {w:World} {x:S29} {cs:List Value} (h:k29.K w x cs):cs=[.int .i64 x.f0,.int .i64 x.f1]:=by
  obtain⟨_,_,rfl,rfl,rfl⟩:=h;exact rfl
theorem k29_openM {w:World} {base:Nat} {ok:Nat→Prop} {x:S29} {cs:List Value} (h:k29.M w base ok x cs):cs=[.int .i64 x.f0,.int .i64 x.f1]:=by
  obtain⟨_,_,rfl,rfl,rfl⟩:=h;exact rfl
theorem k29_mkM (w:World) (base:Nat) (ok:Nat→Prop) (x:S29)  :k29.M w base ok x [.int .i64 x.f0,.int .i64 x.f1]:=⟨[.int .i64 x.f0],[.int .i64 x.f1],rfl,rfl,rfl⟩
def rd_T29 (xs:List S29) (i:Int):S29:=xs.getD i.toNat z29
theorem at_T29 {w:World} {A:Option Addr} {n:Nat} {xs:List S29} (h:Kd.C k29 w A n xs) (i:Int) (h0:0≤i) (h1:i<n):∃ ad,A=some ad∧w.cell? (ad.add (i.toNat*2))=some (.int .i64 (rd_T29 xs i).f0)∧w.cell? ⟨(ad.add (i.toNat*2)).block,(ad.add (i.toNat*2)).off+1,none⟩=some (.int .i64 (rd_T29 xs i).f1):=by
  obtain⟨ad,c,e,_,hK,hc0⟩:=Kd.C_get h z29 i h0 h1;have hc:∀ j u,c[j]?=some u→w.cell? (ad.add (i.toNat*2+j))=some u:=hc0;obtain rfl:=k29_open hK;exact⟨ad,e,hc 0 _ rfl,by rw[← add_field _ _ 1 (by omega)];exact hc 1 _ rfl⟩
structure S27 where
  f0:Int
  f1:Int
def z27:S27:=⟨(0:Int),(0:Int)⟩
def k27:Kd S27:=Kd.iso (Kd.pair (Kd.int .i64) (Kd.int .i64)) (fun x:S27=>(x.f0,x.f1))
theorem k27_open {w:World} {x:S27} {cs:List Value} (h:k27.K w x cs):cs=[.int .i64 x.f0,.int .i64 x.f1]:=by
  obtain⟨_,_,rfl,rfl,rfl⟩:=h;exact rfl
def rd_T27 (xs:List S27) (i:Int):S27:=xs.getD i.toNat z27
theorem at_T27 {w:World} {A:Option Addr} {n:Nat} {xs:List S27} (h:Kd.C k27 w A n xs) (i:Int) (h0:0≤i) (h1:i<n):∃ ad,A=some ad∧w.cell? (ad.add (i.toNat*2))=some (.int .i64 (rd_T27 xs i).f0)∧w.cell? ⟨(ad.add (i.toNat*2)).block,(ad.add (i.toNat*2)).off+1,none⟩=some (.int .i64 (rd_T27 xs i).f1):=by
  obtain⟨ad,c,e,_,hK,hc0⟩:=Kd.C_get h z27 i h0 h1;have hc:∀ j u,c[j]?=some u→w.cell? (ad.add (i.toNat*2+j))=some u:=hc0;obtain rfl:=k27_open hK;exact⟨ad,e,hc 0 _ rfl,by rw[← add_field _ _ 1 (by omega)];exact hc 1 _ rfl⟩
end
section
def L_within.f (a0:Int) (a1:Int) (a2:Int):Option (Bool):=if a1≤a0 then(some (decide (a0≤a2)))else(some false)
theorem L_within.calls (a0:Int) (a1:Int) (a2:Int) (r:Bool) (w:World) (H:L_within.f a0 a1 a2=some r):
  Calls Try.prog 19 #[.int .i64 a0,.int .i64 a1,.int .i64 a2] w fun e w'=>e= .returned (.bool r)∧Drawn0 w w':=by
 unfold L_within.f at H
 by_cases c4:a1≤a0
 ·rw [if_pos c4]at H;have c4b0:=decide_eq_true c4;clear c4;obtain rfl:=Option.some.inj H;go_enter Try.func19,Try.ntmps19
  go_wp2
  go_ret
  exact⟨rz,by repeat(first|exact Drawn0.refl _|apply Drawn0.step)⟩
 ·rw [if_neg c4]at H;have c4b0:=decide_eq_false c4;clear c4;obtain rfl:=Option.some.inj H;go_enter Try.func19,Try.ntmps19
  go_wp2
  go_ret
  exact⟨rz,by repeat(first|exact Drawn0.refl _|apply Drawn0.step)⟩
end
section
def L_first.l0:Nat→List Int→Int→Int→Option (Int)
 |0,_,_,_=>none
 |k+1,x5,x6,x7=>if x7<x6 then(if 0≤x7 then(if x7<(x5.length:Int)then(if(rd x5 x7)=0 then(L_first.l0 k x5 x6 (wrap64 (x7+1)))else(some (rd x5 x7)))else(none))else(none))else(some 0)
def L_first.f (k:Nat) (l0:List Int):Option (Int):=L_first.l0 k l0 (l0.length:Int) 0
theorem L_first.mono_l:∀ k,(∀ y0 y1 y2,LeO (L_first.l0 k y0 y1 y2) (L_first.l0 (k+1) y0 y1 y2))
 |0=>fun _ _ _ r h=>by simp[L_first.l0]at h
 | k+1=>by
  have ih0:=L_first.mono_l k
  ·intro y0 y1 y2;unfold L_first.l0
   repeat' with_reducible first
    |exact ih0 ..
    |exact LeO.refl ..
    |exact LeO.none ..
    |refine LeO.ite ?_ ?_
    |refine LeO.bind ?_ (fun _=>?_)
theorem L_first.mono:∀ a0 k,LeO (L_first.f k a0) (L_first.f (k+1) a0):=by
 intro a0 k;have ih0:=L_first.mono_l k;unfold L_first.f
 repeat' with_reducible first
  |exact ih0 ..
  |exact LeO.refl ..
  |exact LeO.none ..
  |refine LeO.ite ?_ ?_
  |refine LeO.bind ?_ (fun _=>?_)
theorem L_first.calls (k:Nat) (A0:Option Addr) (c0:Nat) (l0:List Int) (r:Int) (w:World) (hr0:Kd.C (Kd.int .i64) w A0 l0.length l0) (hc0:l0.length≤c0) (H:L_first.f k l0=some r):
  Calls Try.prog 21 #[.slice A0 l0.length c0] w fun e w'=>e= .returned (.int .i64 r)∧Drawn0 w w':=by
 have HR0:=m0 hr0;have HC0:=m0 hc0;clear hr0 hc0;unfold L_first.f at H;have H':=m0 H;clear H;go_enter Try.func21,Try.ntmps21
 go_wp2
 go_loopg [7] k (fun kq v7 w'=>∃ (x7_1:Int),v7= .int .i64 x7_1∧Aside0 (L_first.l0 kq l0 (l0.length:Int) x7_1=some r)∧Aside0 (kq≤k)∧Drawn0 w w')
 case atStart=>exact⟨(0),rz,H',⟨Nat.le_refl _⟩,by repeat(first|exact Drawn0.refl _|apply Drawn0.step)⟩
 case round=>
  clear H';obtain⟨x7_1,rfl,HA,HK1,⟨m1,rfl⟩⟩:=hrel
  cases gk with
  |zero=>exact absurd HA.out (by simp[L_first.l0])
  | succ k1=>
   have H:=HA.out;clear HA;simp only[L_first.l0]at H
   by_cases c2:x7_1<(l0.length:Int)
   ·rw [if_pos c2]at H;have c2b0:=decide_eq_true c2;clear c2
    by_cases c3:0≤x7_1
    ·rw [if_pos c3]at H;have c3b0:=decide_eq_true c3;clear c3
     by_cases c4:x7_1<(l0.length:Int)
     ·rw [if_pos c4]at H;have c4b0:=decide_eq_true c4;clear c4
      by_cases c5:(rd l0 x7_1)=0
      ·rw [if_pos c5]at H;have c5b0:=beq_iff_eq.mpr c5;have c5b1:=bne_eq_false_iff_eq.mpr c5;clear c5;have H':=m0 H;clear H;have p101:0≤(x7_1:Int):=od;have q101:x7_1<(l0.length:Int):=od;obtain⟨ad101,e101,hx101_0⟩:=Kd.at_int HR0.out x7_1 p101 q101
       cases e101
       replace p101:=eq_true p101;replace q101:=eq_true q101
       go_wp2
       go_roundg k1
       case measure=>have:=HK1.out;omega
       case rel=>exact⟨(wrap64 (x7_1+1)),rz,H',⟨by have:=HK1.out;omega⟩,by repeat(first|exact Drawn0.refl _|apply Drawn0.step)⟩
      ·rw [if_neg c5]at H;have c5b0:=beq_eq_false_iff_ne.mpr c5;have c5b1:=bne_iff_ne.mpr c5;obtain rfl:=Option.some.inj H;have p101:0≤(x7_1:Int):=od;have q101:x7_1<(l0.length:Int):=od;obtain⟨ad101,e101,hx101_0⟩:=Kd.at_int HR0.out x7_1 p101 q101
       cases e101
       replace p101:=eq_true p101;replace q101:=eq_true q101
       go_wp2
       go_ret
       exact⟨rz,by repeat(first|exact Drawn0.refl _|apply Drawn0.step)⟩
     ·rw [if_neg c4]at H;exact absurd H (by simp)
    ·rw [if_neg c3]at H;exact absurd H (by simp)
   ·rw [if_neg c2]at H;have c2b0:=decide_eq_false c2;clear c2;obtain rfl:=Option.some.inj H
    go_wp2
    go_ret
    exact⟨rz,by repeat(first|exact Drawn0.refl _|apply Drawn0.step)⟩
end
section
def L_unless.f (a0:Bool) (a1:Int):Option (Int):=if a0=true then(some 0)else(some a1)
theorem L_unless.calls (a0:Bool) (a1:Int) (r:Int) (w:World) (H:L_unless.f a0 a1=some r):
  Calls Try.prog 22 #[.bool a0,.int .i64 a1] w fun e w'=>e= .returned (.int .i64 r)∧Drawn0 w w':=by
 unfold L_unless.f at H
 by_cases c3:a0=true
 ·subst c3;rw[if_pos rfl]at H;obtain rfl:=Option.some.inj H;go_enter Try.func22,Try.ntmps22
  go_wp2
  go_ret
  exact⟨rz,by repeat(first|exact Drawn0.refl _|apply Drawn0.step)⟩
 ·replace c3:=Bool.eq_false_iff.mpr c3;subst c3;rw[if_neg (show ¬ (false=true) by decide)]at H;obtain rfl:=Option.some.inj H;go_enter Try.func22,Try.ntmps22
  go_wp2
  go_ret
  exact⟨rz,by repeat(first|exact Drawn0.refl _|apply Drawn0.step)⟩
end
section
def L_isHeight.f (a0:Int):Option (Bool):=(L_within.f a0 0 20000).bind fun t102=>(some t102)
theorem L_isHeight.calls (a0:Int) (r:Bool) (w:World) (H:L_isHeight.f a0=some r):
  Calls Try.prog 34 #[.int .i64 a0] w fun e w'=>e= .returned (.bool r)∧Drawn0 w w':=by
 unfold L_isHeight.f at H;replace H:=oa H;obtain⟨t102,A2,H⟩:=H;(try dsimp only at H);obtain rfl:=Option.some.inj H;go_enter Try.func34,Try.ntmps34
 go_wp2_with (first|((with_reducible refine gc 19 rfl ?_);refine gl (some 4) Try.func19 #[.int .i64 a0,.int .i64 0,.int .i64 20000] ?_;(with_reducible refine(L_within.calls a0 0 20000 t102 _ A2.out).mono ?_);rintro e w' ⟨rfl,⟨nd,rfl⟩⟩;refine⟨_,rfl,?_⟩))
 go_ret
 exact⟨rz,by repeat(first|exact Drawn0.refl _|apply Drawn0.step)⟩
end
section
def L_CheckLayers_1.f (k:Nat) (a0_0:Int) (a0_1:Int) (a0_2:Int):Option (Int):=(L_isHeight.f a0_0).bind fun t104=>(if t104=true then((L_isHeight.f a0_1).bind fun t105=>(if t105=true then((L_within.f a0_2 0 8).bind fun t106=>((L_unless.f t106 2).bind fun t107=>((L_unless.f (decide (a0_0<a0_1)) 9).bind fun t108=>((L_first.f k (([t107,t108]:List Int))).bind fun t112=>(some t112)))))else((L_unless.f false 2).bind fun t113=>((L_unless.f (decide (a0_0<a0_1)) 9).bind fun t114=>((L_first.f k (([t113,t114]:List Int))).bind fun t118=>(some t118))))))else((L_unless.f false 2).bind fun t119=>((L_unless.f (decide (a0_0<a0_1)) 9).bind fun t120=>((L_first.f k (([t119,t120]:List Int))).bind fun t124=>(some t124)))))
theorem L_CheckLayers_1.mono:∀ a0 a1 a2 k,LeO (L_CheckLayers_1.f k a0 a1 a2) (L_CheckLayers_1.f (k+1) a0 a1 a2):=by
 intro a0 a1 a2 k;unfold L_CheckLayers_1.f
 repeat' with_reducible first
  |exact L_first.mono ..
  |exact LeO.refl ..
  |exact LeO.none ..
  |refine LeO.ite ?_ ?_
  |refine LeO.bind ?_ (fun _=>?_)
def L_CheckLayers_1.T2:Bool×List (List Nat×List Nat):=(true,[([],[]),([0],[0]),([],[]),([2],[2]),([],[]),([4],[4]),([3,5],[3,5]),([6,1],[6]),([1,7],[1,7]),([8,7],[8]),([9,9,0,1,2,3,4,5,6,7,8,9],[9])])
def L_CheckLayers_1.B2:List Nat:=[0,1,0,4,0,16,60,127,255,511,1023]
theorem L_CheckLayers_1.tab2:rtab .any (opsOf Try.f44 2)=L_CheckLayers_1.T2:=by kernel_rfl
theorem L_CheckLayers_1.bits2:waitsOk L_CheckLayers_1.T2.2 L_CheckLayers_1.B2=true:=by kernel_rfl
theorem L_CheckLayers_1.calls (k:Nat) (a0_0:Int) (a0_1:Int) (a0_2:Int) (r:Int) (w:World) (H:L_CheckLayers_1.f k a0_0 a0_1 a0_2=some r):
  Calls Try.prog 44 #[.agg #[.int .i64 a0_0,.int .i64 a0_1,.int .i64 a0_2]] w fun e w'=>e= .returned (.int .i64 r)∧Below w.heap.size w w':=by
 have hu42:=Try.underlying42;have HB:=m0 (Below.refl w.heap.size w);unfold L_CheckLayers_1.f at H;replace H:=oa H;obtain⟨t104,A2,H⟩:=H;(try dsimp only at H)
 by_cases c3:t104=true
 ·subst c3;rw[if_pos rfl]at H;replace H:=oa H;obtain⟨t105,A4,H⟩:=H;(try dsimp only at H)
  by_cases c5:t105=true
  ·subst c5;rw[if_pos rfl]at H;replace H:=oa H;obtain⟨t106,A6,H⟩:=H;(try dsimp only at H);replace H:=oa H;obtain⟨t107,A7,H⟩:=H;(try dsimp only at H);replace H:=oa H;obtain⟨t108,A8,H⟩:=H;(try dsimp only at H);obtain⟨y109,hy109⟩:∃ y_:List Int,y_=(([t107,t108]:List Int)):=⟨_,rfl⟩;replace H:((L_first.f k y109).bind fun t112=>(some t112))=some r:=by first|(rw[hy109];with_reducible exact H)|(have H2_:=(Option.bind_some _ _).symm.trans H;rw[hy109];with_reducible exact H2_)|(have H2_:=(Option.bind_some _ _).symm.trans H;with_reducible exact H2_)|with_reducible exact H|(rw[hy109];exact H)|exact H
   have Ny109:=m0 hy109;clear hy109;replace H:=oa H;obtain⟨t112,A9,H⟩:=H;(try dsimp only at H);obtain rfl:=Option.some.inj H;go_enter Try.func44,Try.ntmps44
   try go_wp2_with (first|((with_reducible refine ga 1 rfl ?_);refine be 1 42 #[.int .i64 a0_0,.int .i64 a0_1,.int .i64 a0_2] ?_;intro gb103 hg w10 hbox hb;have BK103:=m0 hbox;have GE103:=gw w hg;replace HB:=sb HB hb;clear hb hbox hg;obtain⟨_,_,_,_,_,_⟩:=b3 BK103)|((with_reducible refine gc 34 rfl ?_);refine gl (some 6) Try.func34 #[.int .i64 a0_0] ?_;(with_reducible refine(L_isHeight.calls a0_0 true _ A2.out).mono ?_);rintro e w' ⟨rfl,⟨nd,rfl⟩⟩;refine⟨_,rfl,?_⟩)|(go_at_call 34;(with_reducible refine(L_isHeight.calls a0_1 true _ A4.out).mono ?_);rintro e w' ⟨rfl,⟨nd,rfl⟩⟩)|(go_at_call 19;(with_reducible refine(L_within.calls a0_2 0 8 t106 _ A6.out).mono ?_);rintro e w' ⟨rfl,⟨nd,rfl⟩⟩))
   (try(rw[drewN_self w10];generalize hq_:World.drewN w10 _=w10;replace BK103:=gd BK103 hq_;replace HB:=gs HB hq_;clear hq_))
   replace BK103:=bd BK103;replace HB:=sd HB;refine start_ (n:=11) (S:=fun w'=>w'.cell? ⟨gb103,0,none⟩=some (.int .i64 a0_0)∧w'.cell? ⟨gb103,1,none⟩=some (.int .i64 a0_1)∧w'.cell? ⟨gb103,2,none⟩=some (.int .i64 a0_2)) (ds:=[]) _ (by kernel_rfl) rfl rfl cz (fun hH=>?_);refine with_tabW L_CheckLayers_1.tab2 L_CheckLayers_1.bits2 (fun HT_ HW_=>?_);generalize w10.drew=w12 at BK103 HB hH ⊢;refine pZ 0 (some 17) #[true,false,false,false,false,false,false,false,false,false,false] HT_ ?_;refine pZ 2 (some 19) #[true,false,true,false,false,false,false,false,false,false,false] HT_ ?_;refine pZ 4 (some 21) #[true,false,true,false,true,false,false,false,false,false,false] HT_ ?_;refine takeZ 3 (some 20) #[true,false,true,true,true,false,false,false,false,false,false] (tw HT_ HW_) hH ?_;refine takeZ 5 (some 22) #[true,false,true,true,true,true,false,false,false,false,false] (tw HT_ HW_) hH ?_;refine pZ 6 (some 23) #[true,false,true,true,true,true,true,false,false,false,false] HT_ ?_;refine oneZ 1 (some 18) #[true,true,true,true,true,true,true,false,false,false,false] (o1 HT_) fun K hK=>?_;refine gz Try.func22 #[.bool t106,.int .i64 2] ?_
   with_reducible refine(L_unless.calls t106 2 t107 _ A7.out).mono ?_
   rintro e w' ⟨rfl,⟨nd,rfl⟩⟩;refine⟨_,rfl,?_⟩;refine hK.out _ _ cz (fun hH=>?_);clear hK K;refine nz 18 ?_;refine oneZ 7 (some 24) #[true,true,true,true,true,true,true,true,false,false,false] (o1 HT_) fun K hK=>?_;refine gz Try.func22 #[.bool (decide (a0_0<a0_1)),.int .i64 9] ?_
   with_reducible refine(L_unless.calls (decide (a0_0<a0_1)) 9 t108 _ A8.out).mono ?_
   rintro e w' ⟨rfl,⟨nd,rfl⟩⟩;refine⟨_,rfl,?_⟩;refine hK.out _ _ cz (fun hH=>?_);clear hK K;refine nz 24 ?_;refine oneZ 8 (some 25) #[true,true,true,true,true,true,true,true,true,false,false] (o1 HT_) fun K hK=>?_;refine Kd.R_lit_step (Kd.int .i64) _ 30 ?hg (N:=25) ?hd (xs:=([t107,t108]:List Int)) (inner:=[.int .i64 t107,.int .i64 t108]) (ok:=fun _=>True) (okp:=fun _=>True) ?hr ?hp (fun _ hk=>hk) trivial (Below.refl _ _) (Nat.le_refl _) (by simp) ?_;(case hd=>rfl);(case hg=>rfl);(case hr=>first|(go_simp;done)|(go_simp;rfl));(case hp=>exact(Reps.one (ki t107) (Reps.one (ki t108) (Reps.none _ _))))
   intro v110 w13 ho14 hb hg_ hnew_;clear hg_ hnew_
   (first|rw[← Ny109.out]at ho14|(simp only[Int.reduceToNat]at ho14;rw[← Ny109.out]at ho14))
   have HO111:=m0 (Kd.R_lower ho14 (below_size bz));replace BK103:=bb BK103 hb;replace HB:=sb HB hb;clear hb ho14;obtain⟨Ao15,co15,eo15⟩:=Kd.R_slice HO111.out;subst eo15;refine hK.out _ _ cz (fun hH=>?_);clear hK K;refine nz 25 ?_;refine oneZ 9 (some 26) #[true,true,true,true,true,true,true,true,true,true,false] (o1 HT_) fun K hK=>?_;refine gz Try.func21 #[.slice Ao15 y109.length co15] ?_
   with_reducible refine(L_first.calls k _ _ y109 t112 _ ?side1 ?side2 A9.out).mono ?_
   (case side1=>exact bc (Kd.R_reads' HO111.out).2.2)
   (case side2=>exact(Kd.R_reads' HO111.out).2.1)
   rintro e w' ⟨rfl,⟨nd,rfl⟩⟩;refine⟨_,rfl,?_⟩;refine hK.out _ _ cz (fun hH=>?_);clear hK K;refine nz 26 ?_;refine pZ 10 (some 2) #[true,true,true,true,true,true,true,true,true,true,true] HT_ ?_;refine done_ (done_of HT_.out (by kernel_rfl)) ?_
   try go_wp2
   go_ret
   exact ez
  ·replace c5:=Bool.eq_false_iff.mpr c5;subst c5;rw[if_neg (show ¬ (false=true) by decide)]at H;replace H:=oa H;obtain⟨t113,A16,H⟩:=H;(try dsimp only at H);replace H:=oa H;obtain⟨t114,A17,H⟩:=H;(try dsimp only at H);obtain⟨y115,hy115⟩:∃ y_:List Int,y_=(([t113,t114]:List Int)):=⟨_,rfl⟩;replace H:((L_first.f k y115).bind fun t118=>(some t118))=some r:=by first|(rw[hy115];with_reducible exact H)|(have H2_:=(Option.bind_some _ _).symm.trans H;rw[hy115];with_reducible exact H2_)|(have H2_:=(Option.bind_some _ _).symm.trans H;with_reducible exact H2_)|with_reducible exact H|(rw[hy115];exact H)|exact H
   have Ny115:=m0 hy115;clear hy115;replace H:=oa H;obtain⟨t118,A18,H⟩:=H;(try dsimp only at H);obtain rfl:=Option.some.inj H;go_enter Try.func44,Try.ntmps44
   try go_wp2_with (first|((with_reducible refine ga 1 rfl ?_);refine be 1 42 #[.int .i64 a0_0,.int .i64 a0_1,.int .i64 a0_2] ?_;intro gb103 hg w19 hbox hb;have BK103:=m0 hbox;have GE103:=gw w hg;replace HB:=sb HB hb;clear hb hbox hg;obtain⟨_,_,_,_,_,_⟩:=b3 BK103)|((with_reducible refine gc 34 rfl ?_);refine gl (some 6) Try.func34 #[.int .i64 a0_0] ?_;(with_reducible refine(L_isHeight.calls a0_0 true _ A2.out).mono ?_);rintro e w' ⟨rfl,⟨nd,rfl⟩⟩;refine⟨_,rfl,?_⟩)|(go_at_call 34;(with_reducible refine(L_isHeight.calls a0_1 false _ A4.out).mono ?_);rintro e w' ⟨rfl,⟨nd,rfl⟩⟩))
   (try(rw[drewN_self w19];generalize hq_:World.drewN w19 _=w19;replace BK103:=gd BK103 hq_;replace HB:=gs HB hq_;clear hq_))
   replace BK103:=bd BK103;replace HB:=sd HB;refine start_ (n:=11) (S:=fun w'=>w'.cell? ⟨gb103,0,none⟩=some (.int .i64 a0_0)∧w'.cell? ⟨gb103,1,none⟩=some (.int .i64 a0_1)∧w'.cell? ⟨gb103,2,none⟩=some (.int .i64 a0_2)) (ds:=[]) _ (by kernel_rfl) rfl rfl cz (fun hH=>?_);refine with_tabW L_CheckLayers_1.tab2 L_CheckLayers_1.bits2 (fun HT_ HW_=>?_);generalize w19.drew=w21 at BK103 HB hH ⊢;refine pZ 0 (some 17) #[true,false,false,false,false,false,false,false,false,false,false] HT_ ?_;refine pZ 2 (some 19) #[true,false,true,false,false,false,false,false,false,false,false] HT_ ?_;refine pZ 4 (some 21) #[true,false,true,false,true,false,false,false,false,false,false] HT_ ?_;refine takeZ 3 (some 20) #[true,false,true,true,true,false,false,false,false,false,false] (tw HT_ HW_) hH ?_;refine takeZ 5 (some 22) #[true,false,true,true,true,true,false,false,false,false,false] (tw HT_ HW_) hH ?_;refine pZ 6 (some 23) #[true,false,true,true,true,true,true,false,false,false,false] HT_ ?_;refine oneZ 1 (some 18) #[true,true,true,true,true,true,true,false,false,false,false] (o1 HT_) fun K hK=>?_;refine gz Try.func22 #[.bool false,.int .i64 2] ?_
   with_reducible refine(L_unless.calls false 2 t113 _ A16.out).mono ?_
   rintro e w' ⟨rfl,⟨nd,rfl⟩⟩;refine⟨_,rfl,?_⟩;refine hK.out _ _ cz (fun hH=>?_);clear hK K;refine nz 18 ?_;refine oneZ 7 (some 24) #[true,true,true,true,true,true,true,true,false,false,false] (o1 HT_) fun K hK=>?_;refine gz Try.func22 #[.bool (decide (a0_0<a0_1)),.int .i64 9] ?_
   with_reducible refine(L_unless.calls (decide (a0_0<a0_1)) 9 t114 _ A17.out).mono ?_
   rintro e w' ⟨rfl,⟨nd,rfl⟩⟩;refine⟨_,rfl,?_⟩;refine hK.out _ _ cz (fun hH=>?_);clear hK K;refine nz 24 ?_;refine oneZ 8 (some 25) #[true,true,true,true,true,true,true,true,true,false,false] (o1 HT_) fun K hK=>?_;refine Kd.R_lit_step (Kd.int .i64) _ 30 ?hg (N:=25) ?hd (xs:=([t113,t114]:List Int)) (inner:=[.int .i64 t113,.int .i64 t114]) (ok:=fun _=>True) (okp:=fun _=>True) ?hr ?hp (fun _ hk=>hk) trivial (Below.refl _ _) (Nat.le_refl _) (by simp) ?_;(case hd=>rfl);(case hg=>rfl);(case hr=>first|(go_simp;done)|(go_simp;rfl));(case hp=>exact(Reps.one (ki t113) (Reps.one (ki t114) (Reps.none _ _))))
   intro v116 w22 ho23 hb hg_ hnew_;clear hg_ hnew_
   (first|rw[← Ny115.out]at ho23|(simp only[Int.reduceToNat]at ho23;rw[← Ny115.out]at ho23))
   have HO117:=m0 (Kd.R_lower ho23 (below_size bz));replace BK103:=bb BK103 hb;replace HB:=sb HB hb;clear hb ho23;obtain⟨Ao24,co24,eo24⟩:=Kd.R_slice HO117.out;subst eo24;refine hK.out _ _ cz (fun hH=>?_);clear hK K;refine nz 25 ?_;refine oneZ 9 (some 26) #[true,true,true,true,true,true,true,true,true,true,false] (o1 HT_) fun K hK=>?_;refine gz Try.func21 #[.slice Ao24 y115.length co24] ?_
   with_reducible refine(L_first.calls k _ _ y115 t118 _ ?side1 ?side2 A18.out).mono ?_
   (case side1=>exact bc (Kd.R_reads' HO117.out).2.2)
   (case side2=>exact(Kd.R_reads' HO117.out).2.1)
   rintro e w' ⟨rfl,⟨nd,rfl⟩⟩;refine⟨_,rfl,?_⟩;refine hK.out _ _ cz (fun hH=>?_);clear hK K;refine nz 26 ?_;refine pZ 10 (some 2) #[true,true,true,true,true,true,true,true,true,true,true] HT_ ?_;refine done_ (done_of HT_.out (by kernel_rfl)) ?_
   try go_wp2
   go_ret
   exact ez
 ·replace c3:=Bool.eq_false_iff.mpr c3;subst c3;rw[if_neg (show ¬ (false=true) by decide)]at H;replace H:=oa H;obtain⟨t119,A25,H⟩:=H;(try dsimp only at H);replace H:=oa H;obtain⟨t120,A26,H⟩:=H;(try dsimp only at H);obtain⟨y121,hy121⟩:∃ y_:List Int,y_=(([t119,t120]:List Int)):=⟨_,rfl⟩;replace H:((L_first.f k y121).bind fun t124=>(some t124))=some r:=by first|(rw[hy121];with_reducible exact H)|(have H2_:=(Option.bind_some _ _).symm.trans H;rw[hy121];with_reducible exact H2_)|(have H2_:=(Option.bind_some _ _).symm.trans H;with_reducible exact H2_)|with_reducible exact H|(rw[hy121];exact H)|exact H
  have Ny121:=m0 hy121;clear hy121;replace H:=oa H;obtain⟨t124,A27,H⟩:=H;(try dsimp only at H);obtain rfl:=Option.some.inj H;go_enter Try.func44,Try.ntmps44
  try go_wp2_with (first|((with_reducible refine ga 1 rfl ?_);refine be 1 42 #[.int .i64 a0_0,.int .i64 a0_1,.int .i64 a0_2] ?_;intro gb103 hg w28 hbox hb;have BK103:=m0 hbox;have GE103:=gw w hg;replace HB:=sb HB hb;clear hb hbox hg;obtain⟨_,_,_,_,_,_⟩:=b3 BK103)|((with_reducible refine gc 34 rfl ?_);refine gl (some 6) Try.func34 #[.int .i64 a0_0] ?_;(with_reducible refine(L_isHeight.calls a0_0 false _ A2.out).mono ?_);rintro e w' ⟨rfl,⟨nd,rfl⟩⟩;refine⟨_,rfl,?_⟩))
  (try(rw[drewN_self w28];generalize hq_:World.drewN w28 _=w28;replace BK103:=gd BK103 hq_;replace HB:=gs HB hq_;clear hq_))
  replace BK103:=bd BK103;replace HB:=sd HB;refine start_ (n:=11) (S:=fun w'=>w'.cell? ⟨gb103,0,none⟩=some (.int .i64 a0_0)∧w'.cell? ⟨gb103,1,none⟩=some (.int .i64 a0_1)∧w'.cell? ⟨gb103,2,none⟩=some (.int .i64 a0_2)) (ds:=[]) _ (by kernel_rfl) rfl rfl cz (fun hH=>?_);refine with_tabW L_CheckLayers_1.tab2 L_CheckLayers_1.bits2 (fun HT_ HW_=>?_);generalize w28.drew=w30 at BK103 HB hH ⊢;refine pZ 0 (some 17) #[true,false,false,false,false,false,false,false,false,false,false] HT_ ?_;refine pZ 2 (some 19) #[true,false,true,false,false,false,false,false,false,false,false] HT_ ?_;refine pZ 4 (some 21) #[true,false,true,false,true,false,false,false,false,false,false] HT_ ?_;refine takeZ 3 (some 20) #[true,false,true,true,true,false,false,false,false,false,false] (tw HT_ HW_) hH ?_;refine takeZ 5 (some 22) #[true,false,true,true,true,true,false,false,false,false,false] (tw HT_ HW_) hH ?_;refine pZ 6 (some 23) #[true,false,true,true,true,true,true,false,false,false,false] HT_ ?_;refine oneZ 1 (some 18) #[true,true,true,true,true,true,true,false,false,false,false] (o1 HT_) fun K hK=>?_;refine gz Try.func22 #[.bool false,.int .i64 2] ?_
  with_reducible refine(L_unless.calls false 2 t119 _ A25.out).mono ?_
  rintro e w' ⟨rfl,⟨nd,rfl⟩⟩;refine⟨_,rfl,?_⟩;refine hK.out _ _ cz (fun hH=>?_);clear hK K;refine nz 18 ?_;refine oneZ 7 (some 24) #[true,true,true,true,true,true,true,true,false,false,false] (o1 HT_) fun K hK=>?_;refine gz Try.func22 #[.bool (decide (a0_0<a0_1)),.int .i64 9] ?_
  with_reducible refine(L_unless.calls (decide (a0_0<a0_1)) 9 t120 _ A26.out).mono ?_
  rintro e w' ⟨rfl,⟨nd,rfl⟩⟩;refine⟨_,rfl,?_⟩;refine hK.out _ _ cz (fun hH=>?_);clear hK K;refine nz 24 ?_;refine oneZ 8 (some 25) #[true,true,true,true,true,true,true,true,true,false,false] (o1 HT_) fun K hK=>?_;refine Kd.R_lit_step (Kd.int .i64) _ 30 ?hg (N:=25) ?hd (xs:=([t119,t120]:List Int)) (inner:=[.int .i64 t119,.int .i64 t120]) (ok:=fun _=>True) (okp:=fun _=>True) ?hr ?hp (fun _ hk=>hk) trivial (Below.refl _ _) (Nat.le_refl _) (by simp) ?_;(case hd=>rfl);(case hg=>rfl);(case hr=>first|(go_simp;done)|(go_simp;rfl));(case hp=>exact(Reps.one (ki t119) (Reps.one (ki t120) (Reps.none _ _))))
  intro v122 w31 ho32 hb hg_ hnew_;clear hg_ hnew_
  (first|rw[← Ny121.out]at ho32|(simp only[Int.reduceToNat]at ho32;rw[← Ny121.out]at ho32))
  have HO123:=m0 (Kd.R_lower ho32 (below_size bz));replace BK103:=bb BK103 hb;replace HB:=sb HB hb;clear hb ho32;obtain⟨Ao33,co33,eo33⟩:=Kd.R_slice HO123.out;subst eo33;refine hK.out _ _ cz (fun hH=>?_);clear hK K;refine nz 25 ?_;refine oneZ 9 (some 26) #[true,true,true,true,true,true,true,true,true,true,false] (o1 HT_) fun K hK=>?_;refine gz Try.func21 #[.slice Ao33 y121.length co33] ?_
  with_reducible refine(L_first.calls k _ _ y121 t124 _ ?side1 ?side2 A27.out).mono ?_
  (case side1=>exact bc (Kd.R_reads' HO123.out).2.2)
  (case side2=>exact(Kd.R_reads' HO123.out).2.1)
  rintro e w' ⟨rfl,⟨nd,rfl⟩⟩;refine⟨_,rfl,?_⟩;refine hK.out _ _ cz (fun hH=>?_);clear hK K;refine nz 26 ?_;refine pZ 10 (some 2) #[true,true,true,true,true,true,true,true,true,true,true] HT_ ?_;refine done_ (done_of HT_.out (by kernel_rfl)) ?_
  try go_wp2
  go_ret
  exact ez
end
section
def api_CloudLayer_CheckLayers_1.l0:Nat→List (S42)→Int→Int→Option (Int×Int)
 |0,_,_,_=>none
 |k+1,x9,x10,x11=>if x11<x10 then(if 0≤x11 then(if x11<(x9.length:Int)then((L_CheckLayers_1.f k ((rd_T42 x9 x11).f0) ((rd_T42 x9 x11).f1) ((rd_T42 x9 x11).f2)).bind fun t127=>(if t127=0 then(api_CloudLayer_CheckLayers_1.l0 k x9 x10 (wrap64 (x11+1)))else(some (x11,t127))))else(none))else(none))else(some (0,0))
def api_CloudLayer_CheckLayers_1.f (k:Nat) (l0:List (S42))  :Option (Int×Int):=api_CloudLayer_CheckLayers_1.l0 k l0 (l0.length:Int) 0
theorem api_CloudLayer_CheckLayers_1.mono_l:∀ k,(∀ y0 y1 y2,LeO (api_CloudLayer_CheckLayers_1.l0 k y0 y1 y2) (api_CloudLayer_CheckLayers_1.l0 (k+1) y0 y1 y2))
 |0=>fun _ _ _ r h=>by simp[api_CloudLayer_CheckLayers_1.l0]at h
 | k+1=>by
  have ih0:=api_CloudLayer_CheckLayers_1.mono_l k
  ·intro y0 y1 y2;unfold api_CloudLayer_CheckLayers_1.l0
   repeat' with_reducible first
    |exact ih0 ..
    |exact L_CheckLayers_1.mono ..
    |exact LeO.refl ..
    |exact LeO.none ..
    |refine LeO.ite ?_ ?_
    |refine LeO.bind ?_ (fun _=>?_)
theorem api_CloudLayer_CheckLayers_1.mono:∀ a0 k,LeO (api_CloudLayer_CheckLayers_1.f k a0) (api_CloudLayer_CheckLayers_1.f (k+1) a0):=by
 intro a0 k;have ih0:=api_CloudLayer_CheckLayers_1.mono_l k;unfold api_CloudLayer_CheckLayers_1.f
 repeat' with_reducible first
  |exact ih0 ..
  |exact L_CheckLayers_1.mono ..
  |exact LeO.refl ..
  |exact LeO.none ..
  |refine LeO.ite ?_ ?_
  |refine LeO.bind ?_ (fun _=>?_)
theorem api_CloudLayer_CheckLayers_1.calls (k:Nat) (A0:Option Addr) (c0:Nat) (l0:List (S42))  (r1:Int) (r2:Int) (w:World) (hr0:Kd.C k42 w A0 l0.length l0) (hc0:l0.length≤c0) (H:api_CloudLayer_CheckLayers_1.f k l0=some (r1,r2)):
  Calls Try.prog 43 #[.slice A0 l0.length c0,.func (.func 44) #[] #[]] w fun e w'=>e= .returned (.tuple #[.int .i64 r1,.int .i64 r2])∧Below w.heap.size w w':=by
 have hu42:=Try.underlying42;have HR0:=m0 hr0;have HC0:=m0 hc0;clear hr0 hc0;have HB:=m0 (Below.refl w.heap.size w);unfold api_CloudLayer_CheckLayers_1.f at H;have H':=m0 H;clear H;go_enter Try.func43,Try.ntmps43
 go_wp2
 go_loopg [11] k (fun kq v11 w'=>∃ (x11_1:Int),v11= .int .i64 x11_1∧Aside0 (api_CloudLayer_CheckLayers_1.l0 kq l0 (l0.length:Int) x11_1=some (r1,r2))∧Aside0 (kq≤k)∧Aside0 (Below w.heap.size w w'))
 case atStart=>exact⟨(0),rz,H',⟨Nat.le_refl _⟩,⟨bz⟩⟩
 case round=>
  clear H';obtain⟨x11_1,rfl,HA,HK1,HB⟩:=hrel
  cases gk with
  |zero=>exact absurd HA.out (by simp[api_CloudLayer_CheckLayers_1.l0])
  | succ k1=>
   have H:=HA.out;clear HA;simp only[api_CloudLayer_CheckLayers_1.l0]at H
   by_cases c3:x11_1<(l0.length:Int)
   ·rw [if_pos c3]at H;have c3b0:=decide_eq_true c3;clear c3
    by_cases c4:0≤x11_1
    ·rw [if_pos c4]at H;have c4b0:=decide_eq_true c4;clear c4
     by_cases c5:x11_1<(l0.length:Int)
     ·rw [if_pos c5]at H;have c5b0:=decide_eq_true c5;clear c5;replace H:=oa H;obtain⟨t127,A6,H⟩:=H;(try dsimp only at H)
      by_cases c7:t127=0
      ·rw [if_pos c7]at H;have c7b0:=beq_iff_eq.mpr c7;have c7b1:=bne_eq_false_iff_eq.mpr c7;clear c7;have H':=m0 H;clear H;have p125:0≤(x11_1:Int):=od;have q125:x11_1<(l0.length:Int):=od;obtain⟨ad125,e125,hx125_0,hx125_1,hx125_2⟩:=at_T42 HR0.out x11_1 p125 q125
       cases e125
       replace hx125_0:=hc HB hx125_0;replace hx125_1:=hc HB hx125_1;replace hx125_2:=hc HB hx125_2;replace p125:=eq_true p125;replace q125:=eq_true q125
       go_wp2_with (first|((with_reducible refine ga 7 rfl ?_);refine be 7 42 #[.int .i64 0,.int .i64 0,.int .i64 0] ?_;intro gb126 hg w8 hbox hb;have BK126:=m0 hbox;have GE126:=gw w hg;replace HB:=sb HB hb;clear hb hbox hg;obtain⟨_,_,_,_,_,_⟩:=b3 BK126)|(go_at_call 44;(with_reducible refine(L_CheckLayers_1.calls k1 ((rd_T42 l0 x11_1).f0) ((rd_T42 l0 x11_1).f1) ((rd_T42 l0 x11_1).f2) t127 _ A6.out).mono ?_);rintro e w10 ⟨rfl,hb⟩;replace BK126:=m0 (blk_below (g:=gb126) (o:= .cells #[.int .i64 ((rd_T42 l0 x11_1).f0),.int .i64 ((rd_T42 l0 x11_1).f1),.int .i64 ((rd_T42 l0 x11_1).f2)] 42 (0,0)) (bq BK126.out) hb);replace HB:=sb HB hb;(try clear hb)))
       go_roundg k1
       case measure=>have:=HK1.out;omega
       case rel=>exact⟨(wrap64 (x11_1+1)),rz,H',⟨by have:=HK1.out;omega⟩,⟨bz⟩⟩
      ·rw [if_neg c7]at H;have c7b0:=beq_eq_false_iff_ne.mpr c7;have c7b1:=bne_iff_ne.mpr c7;simp only[Option.some.injEq,Prod.mk.injEq]at H;obtain⟨rfl,rfl⟩:=H;have p125:0≤(x11_1:Int):=od;have q125:x11_1<(l0.length:Int):=od;obtain⟨ad125,e125,hx125_0,hx125_1,hx125_2⟩:=at_T42 HR0.out x11_1 p125 q125
       cases e125
       replace hx125_0:=hc HB hx125_0;replace hx125_1:=hc HB hx125_1;replace hx125_2:=hc HB hx125_2;replace p125:=eq_true p125;replace q125:=eq_true q125
       go_wp2_with (first|((with_reducible refine ga 7 rfl ?_);refine be 7 42 #[.int .i64 0,.int .i64 0,.int .i64 0] ?_;intro gb126 hg w11 hbox hb;have BK126:=m0 hbox;have GE126:=gw w hg;replace HB:=sb HB hb;clear hb hbox hg;obtain⟨_,_,_,_,_,_⟩:=b3 BK126)|(go_at_call 44;(with_reducible refine(L_CheckLayers_1.calls k1 ((rd_T42 l0 x11_1).f0) ((rd_T42 l0 x11_1).f1) ((rd_T42 l0 x11_1).f2) t127 _ A6.out).mono ?_);rintro e w13 ⟨rfl,hb⟩;replace BK126:=m0 (blk_below (g:=gb126) (o:= .cells #[.int .i64 ((rd_T42 l0 x11_1).f0),.int .i64 ((rd_T42 l0 x11_1).f1),.int .i64 ((rd_T42 l0 x11_1).f2)] 42 (0,0)) (bq BK126.out) hb);replace HB:=sb HB hb;(try clear hb)))
       go_ret2
       exact ez
     ·rw [if_neg c5]at H;exact absurd H (by simp)
    ·rw [if_neg c4]at H;exact absurd H (by simp)
   ·rw [if_neg c3]at H;have c3b0:=decide_eq_false c3;clear c3;simp only[Option.some.injEq,Prod.mk.injEq]at H;obtain⟨rfl,rfl⟩:=H
    go_wp2
    go_ret2
    exact ez
end
section
def L_CheckLayers.f (k:Nat) (l0:List (S42)):Option (Int×Int):=if(l0.length:Int)>10 then(some (0,8))else((api_CloudLayer_CheckLayers_1.f k l0).bind fun bt128=>(some (bt128.1,bt128.2)))
theorem L_CheckLayers.mono:∀ a0 k,LeO (L_CheckLayers.f k a0) (L_CheckLayers.f (k+1) a0):=by
 intro a0 k;unfold L_CheckLayers.f
 repeat' with_reducible first
  |exact api_CloudLayer_CheckLayers_1.mono ..
  |exact LeO.refl ..
  |exact LeO.none ..
  |refine LeO.ite ?_ ?_
  |refine LeO.bind ?_ (fun _=>?_)
theorem L_CheckLayers.calls (k:Nat) (A0:Option Addr) (c0:Nat) (l0:List (S42)) (r1:Int) (r2:Int) (w:World) (hr0:Kd.C k42 w A0 l0.length l0) (hc0:l0.length≤c0) (H:L_CheckLayers.f k l0=some (r1,r2)):
  Calls Try.prog 27 #[.slice A0 l0.length c0] w fun e w'=>e= .returned (.tuple #[.int .i64 r1,.int .i64 r2])∧Below w.heap.size w w':=by
 have HR0:=m0 hr0;have HC0:=m0 hc0;clear hr0 hc0;have HB:=m0 (Below.refl w.heap.size w);unfold L_CheckLayers.f at H
 by_cases c2:(l0.length:Int)>10
 ·rw [if_pos c2]at H;have c2b0:=decide_eq_true c2;have c2b1:decide (10<l0.length)=true:=decide_eq_true (by omega);clear c2;simp only[Option.some.injEq,Prod.mk.injEq]at H;obtain⟨rfl,rfl⟩:=H;go_enter Try.func27,Try.ntmps27
  go_wp2
  go_ret2
  exact ez
 ·rw [if_neg c2]at H;have c2b0:=decide_eq_false c2;have c2b1:decide (10<l0.length)=false:=decide_eq_false (by omega);clear c2;replace H:=oa H;obtain⟨⟨t128,t129⟩,A3,H⟩:=H;(try dsimp only at H);simp only[Option.some.injEq,Prod.mk.injEq]at H;obtain⟨rfl,rfl⟩:=H;go_enter Try.func27,Try.ntmps27
  go_wp2_with (first|((with_reducible refine gc 43 rfl ?_);refine gl (some 8) Try.func43 #[.slice A0 l0.length c0,.func (.func 44) #[] #[]] ?_;(with_reducible refine(api_CloudLayer_CheckLayers_1.calls k _ _ l0  t128 t129 _ ?side1 ?side2 A3.out).mono ?_);(case side1=>repeat(first|exact HR0.out|(with_reducible refine Kd.C_alloc ?_ _)|(with_reducible refine Kd.C_drewN ?_ _)|(with_reducible refine Kd.C_drew ?_)));(case side2=>exact HC0.out);rintro e w4 ⟨rfl,hb⟩;refine⟨_,rfl,?_⟩;replace HB:=sb HB hb;(try clear hb)))
  go_ret2
  exact ez
end
section
theorem itb_ {A W wr:World} {p:Addr} {v:Value} (hW:Below A.heap.size A W) (hB:Below A.heap.size W wr) (h:A.cell? p=some v):wr.cell? p=some v:=
 (hB.cell (World.block_lt_of_cell? A _ h)).trans ((hW.cell (World.block_lt_of_cell? A _ h)).trans h)
theorem abides_new_ {β:Type} {J:β→World→Prop} {n:Nat} {s:β} {W:World} {o:Obj} (hA:AbidesFrom n J) (h:J s W):J s (W.alloc o):=hA s W _ none h (World.grownBy_alloc W o none) (fun r e=>by cases e)
theorem itn_ {n:Nat} {W0 W:World} {o:Obj} (h:Below n W0 W) (hn:n≤W.heap.size):Below n W0 (W.alloc o):=h.alloc hn o
theorem L_profile_int.calls_own (A:Option Addr) (n c:Nat) (w:World):
  Calls Try.prog 55 #[.slice A n c] w fun e w'=>∃ gb,gb=w.heap.size∧e= .returned (.func (.func 66) #[] #[.pointer (some ⟨gb,0,none⟩)])∧w'.heap[gb]?=some (.cells #[.slice A n c] 54 (0,0))∧Below w.heap.size w w':=by
 go_enter Try.func55,Try.ntmps55
 go_wp2
 go_ret
 exact⟨_,rfl,rfl,blk_new _ _,below_alloc (Below.refl _ _) _⟩
attribute [local go_sem] Oper.semAt_some
theorem L_profile_int.take_snoc (l:List Int) (x:Int) (h0:0≤x) (h1:x<(l.length:Int)):l.take (x+1).toNat=l.take x.toNat++ [rd l x]:=by
 have e:(x+1).toNat=x.toNat+1:=by omega
 have h:x.toNat<l.length:=by omega
 rw[e,List.take_succ_eq_append_getElem h]
 congr 1
 simp[rd,List.getD_eq_getElem?_getD,List.getElem?_eq_getElem h]
theorem L_profile_int.stops (n:Nat) (hn:1≤n) (A:Option Addr) (c:Nat) (l:List Int) (B:Nat) (w:World) (hbx:w.heap[B]?=some (.cells #[.slice A l.length c] 54 (0,0))) (hr:Kd.C (Kd.int .i64) w A l.length l):
  SeqStopsK Fence.wide n Try.prog 66 #[.pointer (some ⟨B,0,none⟩)] (fun x_:Int=>(#[(.int .i64 (x_))]:Array Value)) (Below w.heap.size) (fun ys=>ys=l) (fun _=>True) l.length w:=by
 intro l_ J Jx W hW hJ hJx hY h0;have hcx:W.cell? ⟨B,0,none⟩=some (.slice A l.length c):=(blk_cell (blk_below hbx hW) 0).trans rfl;have HL:=m0 (show(l.length:Int)≤9223372036854775807 by have:=hr.2.1;omega);have HY:=m0 hY;have HR:=m0 hr;have H0:=m0 h0;have HW:=m0 hW;have HJA:=m0 hJ;clear hr hbx hY h0 hJ hJx hW;refine callsIn_of_wp Try.func66 rfl trivial ?_ rfl;simp only[Try.ntmps66,List.size_toArray,List.length_cons,List.length_nil,Nat.reduceAdd,Nat.reduceSub,Array.replicate_succ,Array.replicate_zero,List.push_toArray,List.append_toArray,List.nil_append,List.cons_append]
 gi_wp2
 gi_loopw [7] (fun i wr=>∃ x:Int,i= .int .i64 x∧Aside0 (0≤x∧x≤l.length)∧Aside0 (J (l.take x.toNat) wr)∧Aside0 (Below w.heap.size W wr)) (fun i _=>l.length-(intOf i).toNat)
 case atStart=>exact⟨0,rfl,⟨by omega,by omega⟩,⟨H0.out⟩,⟨Below.refl _ _⟩⟩
 case round=>
  obtain⟨x,rfl,HX,HJ,HB⟩:=hrel;clear hcx
  by_cases hlt:x<(l.length:Int)
  ·obtain ⟨ad,e,hx0⟩:=Kd.at_int HR.out x HX.out.1 hlt
   cases e
   replace hx0:=itb_ HW.out HB.out hx0;have HLT:=m0 hlt;have c1:decide (x<(l.length:Int))=true:=decide_eq_true hlt;have p1:=eq_true HX.out.1;have q1:=eq_true hlt;clear hlt;obtain⟨fn,tmps,assign,body,hy,hR⟩:=HY.out (l.take x.toNat) (rd l x) wr HJ.out (by rw[List.length_take];have:=HLT.out;have:=HX.out;omega);have HRR:=m0 hR;clear hR
   gi_wp2
   refine HRR.out.mono ?_;rintro e W3 (⟨rfl,hJ3,hk3⟩|⟨rfl,hJx3⟩)
   ·have HJ3:=m0 hJ3;have HK3:=m0 (show Below w.heap.size W W3 from HB.out.trans hk3);clear hJ3 hk3 hy
    gi_wp2
    go_roundw
    case rel=>
     have h0:=HX.out.1;have h1:=HLT.out;have hL:=HL.out;have e1:wrap64 (x+1)=x+1:=by unfold wrap64;omega
     refine⟨wrap64 (x+1),rfl,?_,?_,HK3⟩
     ·rw [e1];exact⟨⟨by omega,by omega⟩⟩
     ·rw [e1,L_profile_int.take_snoc l x h0 h1];exact HJ3
    case measure=>
     have h0:=HX.out.1;have h1:=HLT.out;have hL:=HL.out;have e1:wrap64 (x+1)=x+1:=by unfold wrap64;omega
     simp only[intOf];rw[e1];omega
   ·have HJX:=m0 hJx3;clear hJx3 hy
    gi_wp2
    refine bodyPost_ret (results_none rfl _ _ _) rfl ?_;exact⟨⟨_,rfl⟩,.inr ⟨_,trivial,HJX.out⟩⟩
  ·have HN:=m0 hlt;have c1:decide (x<(l.length:Int))=false:=decide_eq_false hlt;clear hlt
   gi_wp2
   go_end0
   have hj:=HJ.out;rw[List.take_of_length_le (by have:=HN.out;omega)]at hj
   first
    |exact⟨⟨_,rfl⟩,.inl ⟨_,rfl,hj⟩⟩
    |exact⟨⟨_,rfl⟩,.inl hj⟩
end
section
theorem api_CloudLayer_29.calls_own (A:Option Addr) (n c:Nat) (w:World):
  Calls Try.prog 29 #[.slice A n c] w fun e w'=>∃ gb,gb=w.heap.size∧e= .returned (.func (.func 47) #[] #[.pointer (some ⟨gb,0,none⟩)])∧w'.heap[gb]?=some (.cells #[.slice A n c] 40 (0,0))∧Below w.heap.size w w':=by
 go_enter Try.func29,Try.ntmps29
 go_wp2
 go_ret
 exact⟨_,rfl,rfl,blk_new _ _,below_alloc (Below.refl _ _) _⟩
attribute [local go_sem] Oper.semAt_some
theorem api_CloudLayer_29.take_snoc (l:List S42) (x:Int) (h0:0≤x) (h1:x<(l.length:Int)):l.take (x+1).toNat=l.take x.toNat++ [rd_T42 l x]:=by
 have e:(x+1).toNat=x.toNat+1:=by omega
 have h:x.toNat<l.length:=by omega
 rw[e,List.take_succ_eq_append_getElem h]
 congr 1
 simp[rd_T42,List.getD_eq_getElem?_getD,List.getElem?_eq_getElem h]
theorem api_CloudLayer_29.stops (n:Nat) (hn:1≤n) (A:Option Addr) (c:Nat) (l:List S42) (B:Nat) (w:World) (hbx:w.heap[B]?=some (.cells #[.slice A l.length c] 40 (0,0))) (hr:Kd.C k42 w A l.length l):
  SeqStopsK Fence.wide n Try.prog 47 #[.pointer (some ⟨B,0,none⟩)] (fun x_:S42=>(#[(.agg #[.int .i64 (x_).f0,.int .i64 (x_).f1,.int .i64 (x_).f2])]:Array Value)) (Below w.heap.size) (fun ys=>ys=l) (fun _=>True) l.length w:=by
 intro l_ J Jx W hW hJ hJx hY h0;have hcx:W.cell? ⟨B,0,none⟩=some (.slice A l.length c):=(blk_cell (blk_below hbx hW) 0).trans rfl;have HL:=m0 (show(l.length:Int)≤9223372036854775807 by have:=hr.2.1;omega);have HY:=m0 hY;have HR:=m0 hr;have H0:=m0 h0;have HW:=m0 hW;have HJA:=m0 hJ;clear hr hbx hY h0 hJ hJx hW;refine callsIn_of_wp Try.func47 rfl trivial ?_ rfl;simp only[Try.ntmps47,List.size_toArray,List.length_cons,List.length_nil,Nat.reduceAdd,Nat.reduceSub,Array.replicate_succ,Array.replicate_zero,List.push_toArray,List.append_toArray,List.nil_append,List.cons_append]
 gi_wp2
 gi_loopw [7] (fun i wr=>∃ x:Int,i= .int .i64 x∧Aside0 (0≤x∧x≤l.length)∧Aside0 (J (l.take x.toNat) wr)∧Aside0 (Below w.heap.size W wr)) (fun i _=>l.length-(intOf i).toNat)
 case atStart=>exact⟨0,rfl,⟨by omega,by omega⟩,⟨H0.out⟩,⟨Below.refl _ _⟩⟩
 case round=>
  obtain⟨x,rfl,HX,HJ,HB⟩:=hrel;clear hcx
  by_cases hlt:x<(l.length:Int)
  ·obtain ⟨ad,e,hx0,hx1,hx2⟩:=at_T42 HR.out x HX.out.1 hlt
   cases e
   replace hx0:=itb_ HW.out HB.out hx0;replace hx1:=itb_ HW.out HB.out hx1;replace hx2:=itb_ HW.out HB.out hx2;have HLT:=m0 hlt;have c1:decide (x<(l.length:Int))=true:=decide_eq_true hlt;have p1:=eq_true HX.out.1;have q1:=eq_true hlt;clear hlt;obtain⟨fn,tmps,assign,body,hy,hR⟩:=HY.out (l.take x.toNat) (rd_T42 l x) (wr.alloc (.cells #[.int .i64 (rd_T42 l x).f0,.int .i64 (rd_T42 l x).f1,.int .i64 (rd_T42 l x).f2] 42)) (abides_new_ HJA.out HJ.out) (by rw[List.length_take];have:=HLT.out;have:=HX.out;omega);have HRR:=m0 hR;clear hR
   gi_wp2
   refine HRR.out.mono ?_;rintro e W3 (⟨rfl,hJ3,hk3⟩|⟨rfl,hJx3⟩)
   ·have HJ3:=m0 hJ3;have HK3:=m0 (show Below w.heap.size W W3 from(itn_ HB.out (Nat.le_trans HW.out.size HB.out.size)).trans hk3);clear hJ3 hk3 hy
    gi_wp2
    go_roundw
    case rel=>
     have h0:=HX.out.1;have h1:=HLT.out;have hL:=HL.out;have e1:wrap64 (x+1)=x+1:=by unfold wrap64;omega
     refine⟨wrap64 (x+1),rfl,?_,?_,HK3⟩
     ·rw [e1];exact⟨⟨by omega,by omega⟩⟩
     ·rw [e1,api_CloudLayer_29.take_snoc l x h0 h1];exact HJ3
    case measure=>
     have h0:=HX.out.1;have h1:=HLT.out;have hL:=HL.out;have e1:wrap64 (x+1)=x+1:=by unfold wrap64;omega
     simp only[intOf];rw[e1];omega
   ·have HJX:=m0 hJx3;clear hJx3 hy
    gi_wp2
    refine bodyPost_ret (results_none rfl _ _ _) rfl ?_;exact⟨⟨_,rfl⟩,.inr ⟨_,trivial,HJX.out⟩⟩
  ·have HN:=m0 hlt;have c1:decide (x<(l.length:Int))=false:=decide_eq_false hlt;clear hlt
   gi_wp2
   go_end0
   have hj:=HJ.out;rw[List.take_of_length_le (by have:=HN.out;omega)]at hj
   first
    |exact⟨⟨_,rfl⟩,.inl ⟨_,rfl,hj⟩⟩
    |exact⟨⟨_,rfl⟩,.inl hj⟩
end
end Go.Proofs.Ytggiijffaifajaa.A
