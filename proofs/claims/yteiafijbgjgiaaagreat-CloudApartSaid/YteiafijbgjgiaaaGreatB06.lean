/- Walks of the program's functions (printed, made shorter), each with what it computes. -/
import Derived.Test.YteiafijbgjgiaaaGreatProg
import Derived.Test.YteiafijbgjgiaaaGreatB05
namespace Go.Proofs.YteiafijbgjgiaaaGreat.A
set_option maxHeartbeats 8000000
set_option maxRecDepth 100000
open Go.RowKit Go.Proofs.YteiafijbgjgiaaaGreatW.PrintWords Go.Proofs.YteiafijbgjgiaaaGreatW.PrintLast Go.Proofs.YteiafijbgjgiaaaGreatW.PrintMore
attribute [local go_sem] max2_int min2_int max_two min_two max_three min_three max_four min_four
set_option linter.unusedVariables false
set_option linter.unusedSimpArgs false
section
def errW:Option Int→Value
  |none=> .nilIface
  |some c=> .iface 0 (.int .i64 c)
theorem errW_none:errW none= .nilIface:=rfl
theorem errW_some (c:Int):errW (some c)= .iface 0 (.int .i64 c):=rfl
/-- A call through a variable that holds a function without captured variables, in a region that draws. -/
theorem goesV_ {P:Program} {ops:Array Oper} {Q:Exit→Act→World→Prop} {oi:Oper} {N:Option Tmp} {a:Act} {w:World} {K:Act→World→Prop} {f:FuncId} {fn:Func} {av:Array Operand} {ts:Array TypeId} (t:Tmp) (hf:P.funcs[f]?=some fn) (hname:(fn.name== "runtime.NumGoroutine")=false) (hb:fn.body.isSome=true) (args:Array Value)
    (hw:Region.wanted oi (yielded ops a.tmps)=true) (hN:oi.dst=N) (hop:oi.op= .call {callee:= .value (.tmp t),args:=av,argTypes:=ts }) (ht:a.tmps[t]?=some (.func (.func f) #[] #[])) (hargs:av.map a.eval=args)
    (h:Calls P f args w fun e w'=>∃ v,e= .returned v∧K (a.put N v) w'):if Region.wanted oi (yielded ops a.tmps)=true then Oper.wp P oi a w K Q else K (a.put N undef) w:=by
  refine call_ f args hw hN ?_ h;have he:=enters_ hf hname hb args w;unfold execOp
  simp[hop,resolve,Deferred.ofValue,invoke,Act.eval,hargs,he,ht]
theorem ret_int {k:IntKind} {a b:Int} (h:a=b):Ending.returned (.int k a)=Ending.returned (.int k b):=by rw[h]
theorem ret_bool {a b:Bool} (h:a=b):Ending.returned (.bool a)=Ending.returned (.bool b):=by rw[h]
def PredI (g:Nat) (lb:Array Value) (p:Int→Bool) (w:World):Prop:=
  ∀ (W:World) (x:Int),Below w.heap.size w W→Calls Tryz.prog g (#[.int .i64 x]++lb) W fun e w'=>e= .returned (.bool (p x))∧∃ q,w'=W.drewN q
def idxF (p:Int→Bool) (l:List Int):Int:=match l.findIdx? p with|some i=>(i:Int)|none=> -1
theorem idxF_hit (p:Int→Bool) (l:List Int) (k:Nat) (h:k<l.length) (hp:p (rd l k)=true) (h0:∀ j,j<k→p (rd l j)=false):idxF p l=k:=by
  have:l.findIdx? p=some k:=by
    rw[List.findIdx?_eq_some_iff_getElem];refine⟨h,?_,fun j hj=>?_⟩
    · simpa [rd,List.getD_eq_getElem?_getD,List.getElem?_eq_getElem h]using hp
    · have:=h0 j hj;have hj':j<l.length:=Nat.lt_trans hj h
      simpa [rd,List.getD_eq_getElem?_getD,List.getElem?_eq_getElem hj']using this
  simp[idxF,this]
theorem idxF_miss (p:Int→Bool) (l:List Int) (h0:∀ j,j<l.length→p (rd l j)=false):idxF p l= -1:=by
  have:l.findIdx? p=none:=by
    rw[List.findIdx?_eq_none_iff];intro x hx;obtain⟨j,hj,rfl⟩:=List.getElem_of_mem hx
    simpa [rd,List.getD_eq_getElem?_getD,List.getElem?_eq_getElem hj]using h0 j hj
  simp[idxF,this]
theorem idxF_any (p:Int→Bool) (l:List Int):decide (0≤idxF p l)=l.any p:=by
  unfold idxF
  cases h:l.findIdx? p with
  | none=>
    rw[List.findIdx?_eq_none_iff]at h;have:l.any p=false:=by rw[List.any_eq_false];exact fun x hx=>by simp[h x hx]
    rw[this];rfl
  | some i=>
    rw[List.findIdx?_eq_some_iff_getElem]at h;obtain⟨hi,hp,_⟩:=h;have:l.any p=true:=List.any_eq_true.mpr ⟨_,List.getElem_mem hi,hp⟩;rw[this]
    simp
def eqElems (d:Nat) (e:TypeId) (n:Nat) (xs ys:Array Value):List Nat→Sem Bool
  | []=>pure true
  | i::r=>do
    let a←part e xs (i*n)
    let b←part e ys (i*n)
    let q←Op.equalIn d e a b
    if(!q)=true then pure false else eqElems d e n xs ys r
theorem run_equalIn_array {P:Program} {t e:TypeId} {len n d:Nat} {xs ys:Array Value} {w:World} (hu:P.underlying t=some (.array len e)) (hn:∀ w,(sizeOf e).run P w= .ok n w):
    (Op.equalIn (d+1) t (.agg xs) (.agg ys)).run P w=(eqElems d e n xs ys (List.range' 0 len)).run P w:=by
  simp only[Op.equalIn,Sem.run_bind,run_underlying hu,Result.andThen_ok,hn]
  simp
  generalize List.range' 0 len=is;clear hu
  induction is generalizing w with
  |nil=>simp[eqElems]
  | cons i is ih=>
    simp only[List.forIn_cons,eqElems,Sem.run_bind,Sem.run_ite,Bool.not_eq_true'];generalize (part e xs (i*n)).run P w=r1
    cases r1 with
    | ok a w1=>
      simp only[Result.andThen_ok];generalize (part e ys (i*n)).run P w1=r2
      cases r2 with
      | ok b w2=>
        simp only[Result.andThen_ok];generalize (Op.equalIn d e a b).run P w2=r3
        cases r3 with
        | ok r w3=>
          cases r
          · simp only[Result.andThen_ok,Bool.not_false,if_true,Sem.run_pure]
          · simp only[Result.andThen_ok,Bool.not_true,Bool.false_eq_true,if_false,Sem.run_pure]
            simpa using ih (w:=w3)
        |halt x w3=>simp[Result.andThen]
      |halt x w2=>simp[Result.andThen]
    |halt x w1=>simp[Result.andThen]
section
variable {P:Program} {d n i:Nat} {e:TypeId} {xs ys:Array Value} {is:List Nat} {a b:Value} {r s:Bool} {w:World}
theorem eqe_last (ha:(part e xs (i*n)).run P w= .ok a w) (hb:(part e ys (i*n)).run P w= .ok b w) (he:(Op.equalIn d e a b).run P w= .ok r w):(eqElems d e n xs ys [i]).run P w= .ok r w:=by
  simp only[eqElems,Sem.run_bind,ha,hb,he,Result.andThen_ok]
  cases r<;>simp
theorem eqe_cons (ha:(part e xs (i*n)).run P w= .ok a w) (hb:(part e ys (i*n)).run P w= .ok b w) (he:(Op.equalIn d e a b).run P w= .ok r w) (hr:(eqElems d e n xs ys is).run P w= .ok s w):(eqElems d e n xs ys (i::is)).run P w= .ok (r && s) w:=by
  rw[eqElems];simp only[Sem.run_bind,ha,hb,he,Result.andThen_ok]
  cases r
  · simp
  · simpa using hr
end
theorem full_run {P:Program} {k:IntKind} {W:World} {A:Option Addr} {n:Nat} {xs:List Int} (p:Int) (t ty e:TypeId) (z:Value) (bytes:Nat)
    (ht:P.underlying t=some (.slice e)) (hinfo:(P.info? e).map (fun i=>(i.zero,i.size,i.bytes))=some (some z,1,bytes)) (hz:z.cells.size=1) (hb0:0<bytes)
    (HR:Kd.C (Kd.int k) W A n xs) (hl:(xs.length+1)*bytes≤140737488355328):
    ∃ v1 w1,(Builtin.append_ #[t,t] ty #[.slice A n n,.slice (some ⟨W.heap.size,0,none⟩) 1 1]).run P (W.alloc (.cells #[.int k p] e))= .ok v1 w1∧w1.ownsRow W.heap.size e 1 v1 (xs++ [p]).length (encs (Value.int k) (xs++ [p]))∧(W.alloc (.cells #[.int k p] e)).grownBy w1 none:=by
  obtain⟨i0,hi,hzz⟩:=Option.map_eq_some_iff.1 hinfo;simp only[Prod.mk.injEq]at hzz;obtain⟨hz0,hz1,hz2⟩:=hzz;have hm:xs.length=n:=HR.1;have hlen:n+1≤140737488355328:=by rw[← hm];exact Nat.le_trans (Nat.le_mul_of_pos_right _ hb0) hl
  have hnew:∀ j u,([.int k p]:List Value)[j]?=some u→(W.alloc (.cells #[.int k p] e)).cell? ((⟨W.heap.size,0,none⟩:Addr).add j)=some u:=fun j u hj=>by
    rw[add_plain];exact(blk_cell (blk_new W (.cells #[.int k p] e (0,0))) j).trans (by simpa using hj)
  rcases A with _|ad
  · have h0:n=0:=by
      rcases Nat.eq_zero_or_pos n with h0|h0
      · exact h0
      · obtain⟨ad,h,_⟩:=HR.2.2 h0
        cases h
    subst h0;obtain rfl:xs=[]:=List.eq_nil_of_length_eq_zero hm;obtain⟨v',w',hrun,hown,hg,_⟩:=run_append_own (P:=P) (W.alloc (.cells #[.int k p] e)) W.heap.size t ty e i0 z 1 bytes ht hi hz0 hz1 hz2 hz (by decide) (.slice none 0 0) 0 [] ⟨rfl,.inl ⟨rfl,rfl⟩⟩ ⟨W.heap.size,0,none⟩ 1 1 [.int k p] rfl hnew (by simp[Value.oneCell']) (by simp only[maxLen];omega) (by simpa using hl) (by simp);exact⟨v',w',hrun,by simpa [encs]using hown,hg⟩
  · obtain⟨olds,hnr,hnc⟩:=ReadsRow.inner_ HR;have ho:olds=encs (Value.int k) xs:=by
      apply List.ext_getElem?
      intro j
      by_cases hj:j<xs.length
      · have:=hnr.2 j _ (List.getElem?_eq_getElem hj);have h1:(olds.drop (j*1)).take 1=[Value.int k xs[j]]:=this;have h2:olds[j]?=some (Value.int k xs[j]):=by
          have h3:=congrArg (fun l=>l[0]?) h1
          simpa [List.getElem?_take,List.getElem?_drop]using h3
        rw[h2]
        simp[encs,List.getElem?_eq_getElem hj]
      · have hol:olds.length=xs.length:=by have h_:=hnr.1;rw[h_];exact Nat.mul_one _
        rw[List.getElem?_eq_none (by omega),List.getElem?_eq_none (by simp[encs];omega)]
    obtain⟨v',w',hrun,hown,hg⟩:=run_append_arg_grows (P:=P) (W.alloc (.cells #[.int k p] e)) t ty e i0 z 1 bytes ht hi hz0 hz1 hz2 hz (by decide) ad n n olds (by rw[ho];simp[encs,hm])
      (fun j u hj=>((below_alloc (Below.refl _ W) _).cell (World.block_lt_of_cell? W _ (hnc j u hj))).trans (hnc j u hj)) ⟨W.heap.size,0,none⟩ 1 1 [.int k p] rfl hnew (by omega) (by simp only[maxLen];omega) (by rw[← hm];exact hl)
    refine⟨v',w',hrun,?_,hg⟩;have:=own_weaken hown (show W.heap.size≤_ by simp);rw[ho]at this
    simpa [encs,hm]using this
section
variable {P:Program} {ops:Array Oper} {rest:List Oper} {o:Oper} {a:Act} {Q:Exit→Act→World→Prop} {Kc:Act→World→Prop}
theorem full_row {k:IntKind} {W w0:World} {base:Nat} {ok:Nat→Prop} {p:Int} {xs:List Int} {e:TypeId} {v1:Value} {w1:World} (hfresh:∀ k,W.heap.size≤k→ok k) (HB:Below base w0 W) (hbase:base≤W.heap.size)
    (hown:w1.ownsRow W.heap.size e 1 v1 (xs++ [p]).length (encs (Value.int k) (xs++ [p]))) (hg:(W.alloc (.cells #[.int k p] e)).grownBy w1 none):
    Kd.R (Kd.int k) e w1 base ok v1 (xs++ [p])∧Below base w0 w1∧W.grownBy w1 (Value.slice none 0 0).ownBlock∧(v1.ownBlock=(Value.slice none 0 0).ownBlock∨∃ b,v1.ownBlock=some b∧W.heap.size≤b):=by
  have hgW:W.grownBy w1 none:=by
    have h1:=World.grownBy_alloc W (.cells #[.int k p] e) none;exact⟨hg.os.trans h1.os,hg.tape.trans h1.tape,hg.output.trans h1.output,Nat.le_trans h1.size hg.size,fun j hj hn=>(hg.block j (Nat.lt_of_lt_of_le hj h1.size) hn).trans (h1.block j hj hn)⟩
  have hb:∃ b,v1.ownBlock=some b∧W.heap.size≤b:=by
    rcases hown.2 with ⟨_,h0⟩|⟨g,cap,cur,rfl,hb,_⟩
    · simp[encs]at h0
    · exact⟨g,rfl,hb⟩
  refine⟨Kd.R_of_own (enc:=Value.int k) (own_weaken hown hbase) (fun j hj=>?_),HB.grown hgW hbase (fun j hj=>by cases hj),hgW,.inr hb⟩;obtain⟨b,h1,h2⟩:=hb;rw[h1]at hj
  injection hj with hj
  exact hfresh j (by omega)
theorem Kd.R_append_full (k:IntKind) {w0 W:World} (base:Nat) (hgd:o.guard=none) (s x:Operand) (t e:TypeId) (z:Value) (bytes:Nat)
    (ho:o.op= .call {callee:= .builtin .append,args:= #[s,x],argTypes:= #[t,t] })
    (ht:P.underlying t=some (.slice e)) (hinfo:(P.info? e).map (fun i=>(i.zero,i.size,i.bytes))=some (some z,1,bytes)) (hz:z.cells.size=1) (hb0:0<bytes)
    (A:Option Addr) (n:Nat) (xs:List Int) (p:Int) (ok:Nat→Prop) (hs:a.eval s= .slice A n n) (hx:a.eval x= .slice (some ⟨W.heap.size,0,none⟩) 1 1)
    (HR:Kd.C (Kd.int k) W A n xs) (hfresh:∀ k,W.heap.size≤k→ok k) (HB:Below base w0 W) (hbase:base≤W.heap.size) (hl:(xs.length+1)*bytes≤140737488355328)
    (h:∀ v1 w1,Kd.R (Kd.int k) e w1 base ok v1 (xs++ [p])→Below base w0 w1→W.grownBy w1 (Value.slice none 0 0).ownBlock→(v1.ownBlock=(Value.slice none 0 0).ownBlock∨∃ b,v1.ownBlock=some b∧W.heap.size≤b)→wpList P ops Q rest (a.put o.dst v1) w1):
    wpList P ops Q (o::rest) a (W.alloc (.cells #[.int k p] e)):=by
  obtain⟨v1,w1,hr1,hown,hg⟩:=full_run p t o.type e z bytes ht hinfo hz hb0 HR hl;obtain⟨h1,h2,h3,h4⟩:=full_row (ok:=ok) hfresh HB hbase hown hg;refine wpList_plain hgd fun K hK=>?_;unfold Oper.wp execOp;simp only[ho,resolve,invoke,builtin,Sem.run_bind,Sem.run_pure,Result.andThen_ok,List.map_toArray,List.map_cons,List.map_nil,hs,hx,hr1];exact hK _ _ (h v1 w1 h1 h2 h3 h4)
theorem Kd.R_append_full_step (k:IntKind) {w0 W:World} (base:Nat) (hw:Region.wanted o (yielded ops a.tmps)=true) (s x:Operand) (t e:TypeId) (z:Value) (bytes:Nat)
    (ho:o.op= .call {callee:= .builtin .append,args:= #[s,x],argTypes:= #[t,t] })
    (ht:P.underlying t=some (.slice e)) (hinfo:(P.info? e).map (fun i=>(i.zero,i.size,i.bytes))=some (some z,1,bytes)) (hz:z.cells.size=1) (hb0:0<bytes)
    (A:Option Addr) (n:Nat) (xs:List Int) (p:Int) (ok:Nat→Prop) (hs:a.eval s= .slice A n n) (hx:a.eval x= .slice (some ⟨W.heap.size,0,none⟩) 1 1)
    (HR:Kd.C (Kd.int k) W A n xs) (hfresh:∀ k,W.heap.size≤k→ok k) (HB:Below base w0 W) (hbase:base≤W.heap.size) (hl:(xs.length+1)*bytes≤140737488355328)
    (h:∀ v1 w1,Kd.R (Kd.int k) e w1 base ok v1 (xs++ [p])→Below base w0 w1→W.grownBy w1 (Value.slice none 0 0).ownBlock→(v1.ownBlock=(Value.slice none 0 0).ownBlock∨∃ b,v1.ownBlock=some b∧W.heap.size≤b)→Kc (a.put o.dst v1) w1):
    if Region.wanted o (yielded ops a.tmps)=true then Oper.wp P o a (W.alloc (.cells #[.int k p] e)) Kc Q else Kc (a.put o.dst undef) (W.alloc (.cells #[.int k p] e)):=by
  obtain⟨v1,w1,hr1,hown,hg⟩:=full_run p t o.type e z bytes ht hinfo hz hb0 HR hl;obtain⟨h1,h2,h3,h4⟩:=full_row (ok:=ok) hfresh HB hbase hown hg;rw[if_pos hw];unfold Oper.wp execOp;simp only[ho,resolve,invoke,builtin,Sem.run_bind,Sem.run_pure,Result.andThen_ok,List.map_toArray,List.map_cons,List.map_nil,hs,hx,hr1];exact h v1 w1 h1 h2 h3 h4
end
theorem cut_full {P:Program} (t e:TypeId) {i:TypeInfo} (ht:P.underlying t=some (.slice e)) (hi:P.info? e=some i) (A:Option Addr) (n c:Nat) (hc:n≤c):
    ∀ W:World,(Instr.slice t (.slice A n c) none (some (.int .i64 (n:Int))) (some (.int .i64 (n:Int)))).run P W= .ok (.slice A n n) W:=by
  intro W;have hel:P.elem t=e:=by simp[Program.elem,ht]
  have ha:(A.map fun x=>x.add 0)=A:=by cases A<;>simp[Addr.add]
  simp[Instr.slice,run_underlying ht,Instr.sliceBounds,run_sliceBound,sliced,hel,sizeOf,typeInfo,hi,Result.andThen,ha,hc]
theorem full_rows_run {P:Program} {k:IntKind} {W:World} {A B:Option Addr} {n m c:Nat} {xs ys:List Int} (t ty e:TypeId) (z:Value) (bytes:Nat)
    (ht:P.underlying t=some (.slice e)) (hinfo:(P.info? e).map (fun i=>(i.zero,i.size,i.bytes))=some (some z,1,bytes)) (hz:z.cells.size=1) (hb0:0<bytes)
    (HR:Kd.C (Kd.int k) W A n xs) (HR2:Kd.C (Kd.int k) W B m ys) (hy:ys≠ []) (hl:(xs.length+ys.length)*bytes≤140737488355328):
    ∃ v1 w1,(Builtin.append_ #[t,t] ty #[.slice A n n,.slice B m c]).run P W= .ok v1 w1∧w1.ownsRow W.heap.size e 1 v1 (xs++ys).length (encs (Value.int k) (xs++ys))∧W.grownBy w1 none:=by
  obtain ⟨i0,hi,hzz⟩:=Option.map_eq_some_iff.1 hinfo;simp only[Prod.mk.injEq]at hzz;obtain⟨hz0,hz1,hz2⟩:=hzz;have hn:xs.length=n:=HR.1;have hm:ys.length=m:=HR2.1;have hyl:0<ys.length:=List.length_pos_iff.2 hy;have hlen:xs.length+ys.length≤140737488355328:=Nat.le_trans (Nat.le_mul_of_pos_right _ hb0) hl;have flat:∀ {C:Option Addr} {q:Nat} {zs:List Int},Kd.C (Kd.int k) W C q zs→0<q→∃ ad,C=some ad∧∀ j u,(encs (Value.int k) zs)[j]?=some u→W.cell? (ad.add j)=some u:=by
    intro C q zs h hq;obtain⟨ad,rfl,_⟩:=h.2.2 hq;obtain⟨olds,hnr,hnc⟩:=ReadsRow.inner_ h;have ho:olds=encs (Value.int k) zs:=by
      apply List.ext_getElem?
      intro j
      by_cases hj:j<zs.length
      · have:=hnr.2 j _ (List.getElem?_eq_getElem hj);have h1:(olds.drop (j*1)).take 1=[Value.int k zs[j]]:=this;have h2:olds[j]?=some (Value.int k zs[j]):=by
          have h3:=congrArg (fun l=>l[0]?) h1
          simpa [List.getElem?_take,List.getElem?_drop]using h3
        rw[h2]
        simp[encs,List.getElem?_eq_getElem hj]
      · have hol:olds.length=zs.length:=by have h_:=hnr.1;rw[h_];exact Nat.mul_one _
        rw[List.getElem?_eq_none (by omega),List.getElem?_eq_none (by simp[encs];omega)]
    exact⟨ad,rfl,fun j u hj=>hnc j u (by rw[ho];exact hj)⟩
  obtain⟨bd,rfl,hnew⟩:=flat HR2 (by omega);have hone:∀ u∈encs (Value.int k) ys,u.oneCell'=true:=by
    intro u hu;obtain⟨x,_,rfl⟩:=List.mem_map.1 hu
    rfl
  rcases Nat.eq_zero_or_pos n with h0|hp
  · obtain rfl:xs=[]:=List.eq_nil_of_length_eq_zero (by omega);subst h0
    rcases A with _|ad
    · obtain⟨v',w',hrun,hown,hg,_⟩:=run_append_own (P:=P) W W.heap.size t ty e i0 z 1 bytes ht hi hz0 hz1 hz2 hz (by decide) (.slice none 0 0) 0 [] ⟨rfl,.inl ⟨rfl,rfl⟩⟩ bd m c (encs (Value.int k) ys) (by simp[encs,hm]) hnew hone (by simp only[maxLen];simp at hlen;omega) (by simpa [hm]using hl) (Nat.le_refl _);exact⟨v',w',hrun,by simpa [encs,hm]using hown,hg⟩
    · obtain⟨v',w',hrun,hown,hg⟩:=run_append_arg_grows (P:=P) W t ty e i0 z 1 bytes ht hi hz0 hz1 hz2 hz (by decide) ad 0 0 [] rfl (fun j u hj=>by simp at hj) bd m c (encs (Value.int k) ys) (by simp[encs,hm]) hnew (by omega) (by simp only[maxLen];simp at hlen;omega) (by simpa [hm]using hl);exact⟨v',w',hrun,by simpa [encs,hm]using hown,hg⟩
  · obtain⟨ad,rfl,hold⟩:=flat HR hp;obtain⟨v',w',hrun,hown,hg⟩:=run_append_arg_grows (P:=P) W t ty e i0 z 1 bytes ht hi hz0 hz1 hz2 hz (by decide) ad n n (encs (Value.int k) xs) (by simp[encs,hn]) hold bd m c (encs (Value.int k) ys) (by simp[encs,hm]) hnew (by omega) (by simp only[maxLen];omega) (by rw[← hn, ←hm];exact hl);exact⟨v',w',hrun,by simpa [encs,hn,hm]using hown,hg⟩
theorem full_rows_row {k:IntKind} {W w0:World} {base:Nat} {ok:Nat→Prop} {xs:List Int} {e:TypeId} {v1:Value} {w1:World} (hx:xs≠ []) (hfresh:∀ k,W.heap.size≤k→ok k) (HB:Below base w0 W) (hbase:base≤W.heap.size)
    (hown:w1.ownsRow W.heap.size e 1 v1 xs.length (encs (Value.int k) xs)) (hg:W.grownBy w1 none):
    Kd.R (Kd.int k) e w1 base ok v1 xs∧Below base w0 w1∧W.grownBy w1 (Value.slice none 0 0).ownBlock∧(v1.ownBlock=(Value.slice none 0 0).ownBlock∨∃ b,v1.ownBlock=some b∧W.heap.size≤b):=by
  have hb:∃ b,v1.ownBlock=some b∧W.heap.size≤b:=by
    rcases hown.2 with ⟨_,h0⟩|⟨g,cap,cur,rfl,hb,_⟩
    · exact absurd (List.eq_nil_of_length_eq_zero h0) hx
    · exact⟨g,rfl,hb⟩
  refine⟨Kd.R_of_own (enc:=Value.int k) (own_weaken hown hbase) (fun j hj=>?_),HB.grown hg hbase (fun j hj=>by cases hj),hg,.inr hb⟩;obtain⟨b,h1,h2⟩:=hb;rw[h1]at hj
  injection hj with hj
  exact hfresh j (by omega)
section
variable {P:Program} {ops:Array Oper} {rest:List Oper} {o:Oper} {a:Act} {Q:Exit→Act→World→Prop} {Kc:Act→World→Prop}
theorem Kd.R_append_full_rows (k:IntKind) {w0 W:World} (base:Nat) (hgd:o.guard=none) (s x:Operand) (t e:TypeId) (z:Value) (bytes:Nat)
    (ho:o.op= .call {callee:= .builtin .append,args:= #[s,x],argTypes:= #[t,t] })
    (ht:P.underlying t=some (.slice e)) (hinfo:(P.info? e).map (fun i=>(i.zero,i.size,i.bytes))=some (some z,1,bytes)) (hz:z.cells.size=1) (hb0:0<bytes)
    (A:Option Addr) (n:Nat) (xs ys:List Int) (vx:Value) (ok:Nat→Prop) {okx:Nat→Prop} {bx:Nat} (hs:a.eval s= .slice A n n) (hx:a.eval x=vx)
    (HR:Kd.C (Kd.int k) W A n xs) (HOx:Kd.R (Kd.int k) e W bx okx vx ys) (hy:ys≠ []) (hfresh:∀ k,W.heap.size≤k→ok k) (HB:Below base w0 W) (hbase:base≤W.heap.size) (hl:(xs.length+ys.length)*bytes≤140737488355328)
    (h:∀ v1 w1,Kd.R (Kd.int k) e w1 base ok v1 (xs++ys)→Below base w0 w1→W.grownBy w1 (Value.slice none 0 0).ownBlock→(v1.ownBlock=(Value.slice none 0 0).ownBlock∨∃ b,v1.ownBlock=some b∧W.heap.size≤b)→wpList P ops Q rest (a.put o.dst v1) w1):
    wpList P ops Q (o::rest) a W:=by
  obtain⟨B,c,rfl,hc,HR2⟩:=Kd.R_reads HOx;obtain⟨v1,w1,hr1,hown,hg⟩:=full_rows_run (c:=c) t o.type e z bytes ht hinfo hz hb0 HR HR2 hy hl;obtain⟨h1,h2,h3,h4⟩:=full_rows_row (ok:=ok) (by simp[hy]) hfresh HB hbase hown hg;refine wpList_plain hgd fun K hK=>?_;unfold Oper.wp execOp;simp only[ho,resolve,invoke,builtin,Sem.run_bind,Sem.run_pure,Result.andThen_ok,List.map_toArray,List.map_cons,List.map_nil,hs,hx,hr1];exact hK _ _ (h v1 w1 h1 h2 h3 h4)
theorem Kd.R_append_full_rows_step (k:IntKind) {w0 W:World} (base:Nat) (hw:Region.wanted o (yielded ops a.tmps)=true) (s x:Operand) (t e:TypeId) (z:Value) (bytes:Nat)
    (ho:o.op= .call {callee:= .builtin .append,args:= #[s,x],argTypes:= #[t,t] })
    (ht:P.underlying t=some (.slice e)) (hinfo:(P.info? e).map (fun i=>(i.zero,i.size,i.bytes))=some (some z,1,bytes)) (hz:z.cells.size=1) (hb0:0<bytes)
    (A:Option Addr) (n:Nat) (xs ys:List Int) (vx:Value) (ok:Nat→Prop) {okx:Nat→Prop} {bx:Nat} (hs:a.eval s= .slice A n n) (hx:a.eval x=vx)
    (HR:Kd.C (Kd.int k) W A n xs) (HOx:Kd.R (Kd.int k) e W bx okx vx ys) (hy:ys≠ []) (hfresh:∀ k,W.heap.size≤k→ok k) (HB:Below base w0 W) (hbase:base≤W.heap.size) (hl:(xs.length+ys.length)*bytes≤140737488355328)
    (h:∀ v1 w1,Kd.R (Kd.int k) e w1 base ok v1 (xs++ys)→Below base w0 w1→W.grownBy w1 (Value.slice none 0 0).ownBlock→(v1.ownBlock=(Value.slice none 0 0).ownBlock∨∃ b,v1.ownBlock=some b∧W.heap.size≤b)→Kc (a.put o.dst v1) w1):
    if Region.wanted o (yielded ops a.tmps)=true then Oper.wp P o a W Kc Q else Kc (a.put o.dst undef) W:=by
  obtain⟨B,c,rfl,hc,HR2⟩:=Kd.R_reads HOx;obtain⟨v1,w1,hr1,hown,hg⟩:=full_rows_run (c:=c) t o.type e z bytes ht hinfo hz hb0 HR HR2 hy hl;obtain⟨h1,h2,h3,h4⟩:=full_rows_row (ok:=ok) (by simp[hy]) hfresh HB hbase hown hg;rw[if_pos hw];unfold Oper.wp execOp;simp only[ho,resolve,invoke,builtin,Sem.run_bind,Sem.run_pure,Result.andThen_ok,List.map_toArray,List.map_cons,List.map_nil,hs,hx,hr1];exact h v1 w1 h1 h2 h3 h4
end
def ins (x:Int):List Int→List Int
  | []=> [x]
  |y::t=>if x≤y then x::y::t else y::ins x t
def isort:List Int→List Int
  | []=> []
  |x::r=>ins x (isort r)
theorem ins_perm (x:Int):∀ l:List Int,(ins x l).Perm (x::l)
  | []=>List.Perm.refl _
  | y::t=>by
    unfold ins
    split
    · exact List.Perm.refl _
    · exact((ins_perm x t).cons y).trans (List.Perm.swap x y t)
theorem isort_perm:∀ l:List Int,(isort l).Perm l
  | []=>List.Perm.refl _
  |x::r=>(ins_perm x (isort r)).trans ((isort_perm r).cons x)
theorem ins_sorted (x:Int):∀ l:List Int,l.Pairwise (fun a b=>a≤b)→(ins x l).Pairwise (fun a b=>a≤b)
  | [],_=>List.pairwise_singleton _ _
  | y ::t,h=>by
    unfold ins;obtain⟨h1,h2⟩:=List.pairwise_cons.1 h
    split
    · rename_i hxy
      refine List.pairwise_cons.2 ⟨fun z hz=>?_,h⟩
      rcases List.mem_cons.1 hz with rfl|hz
      · exact hxy
      · exact Int.le_trans hxy (h1 z hz)
    · rename_i hxy
      refine List.pairwise_cons.2 ⟨fun z hz=>?_,ins_sorted x t h2⟩
      rcases List.mem_cons.1 ((ins_perm x t).mem_iff.1 hz)with rfl|hz
      · omega
      · exact h1 z hz
theorem isort_sorted:∀ l:List Int,(isort l).Pairwise (fun a b=>a≤b)
  | []=>List.Pairwise.nil
  |x::r=>ins_sorted x _ (isort_sorted r)
theorem isort_eq (l:List Int):isort l=l.mergeSort fun x y=>decide (x≤y):=by
  refine List.Perm.eq_of_pairwise (le:=fun a b=>a≤b) (fun a b _ _ h1 h2=>by omega) (isort_sorted l) ?_ ((isort_perm l).trans (List.mergeSort_perm _ _).symm);exact(List.pairwise_mergeSort (le:=fun x y:Int=>decide (x≤y)) (fun a b c h1 h2=>by simp only[decide_eq_true_eq]at *;omega) (fun a b=>by simp only[Bool.or_eq_true,decide_eq_true_eq];omega) l).imp (fun h=>of_decide_eq_true h)
theorem info3:(Tryz.prog.info? 3).map (fun i=>(i.zero,i.size,i.bytes))=some (some (.int .i64 0),1,8):=by kernel_rfl
theorem info24:(Tryz.prog.info? 24).map (fun i=>(i.zero,i.size,i.bytes))=some (some (.agg #[(.int .i64 0),(.int .i64 0)]),2,16):=by kernel_rfl
theorem info35:(Tryz.prog.info? 35).map (fun i=>(i.zero,i.size,i.bytes))=some (some (.int .i64 0),1,8):=by kernel_rfl
theorem info40:(Tryz.prog.info? 40).map (fun i=>(i.zero,i.size,i.bytes))=some (some (.agg #[(.int .i64 0),(.int .i64 0)]),2,16):=by kernel_rfl
theorem info74:(Tryz.prog.info? 74).map (fun i=>(i.zero,i.size,i.bytes))=some (some (.agg #[(.int .i64 0),(.int .i64 0),(.int .i64 0),(.int .i64 0)]),4,32):=by kernel_rfl
theorem info127:(Tryz.prog.info? 127).map (fun i=>(i.zero,i.size,i.bytes))=some (some (.agg #[(.int .i64 0),(.slice none 0 0)]),2,32):=by kernel_rfl
theorem info133:(Tryz.prog.info? 133).map (fun i=>(i.zero,i.size,i.bytes))=some (some (.agg #[(.int .i64 0),(.int .i64 0),(.int .i64 0)]),3,24):=by kernel_rfl
theorem info143:(Tryz.prog.info? 143).map (fun i=>(i.zero,i.size,i.bytes))=some (some (.agg #[(.int .i64 0),(.int .i64 0),(.int .i64 0)]),3,24):=by kernel_rfl
structure S24 where
  f0:Int
  f1:Int
def z24:S24:=⟨(0:Int),(0:Int)⟩
def k24:Kd S24:=Kd.iso (Kd.pair (Kd.int .i64) (Kd.int .i64)) (fun x:S24=>(x.f0,x.f1))
theorem k24_heap:Kd.Heap k24:=Kd.heap_iso _ (Kd.heap_pair (Kd.heap_int .i64) (Kd.heap_int .i64))
theorem k24_open {w:World} {x:S24} {cs:List Value} (h:k24.K w x cs):cs=[.int .i64 x.f0,.int .i64 x.f1]:=by
  obtain⟨_,_,rfl,rfl,rfl⟩:=h;exact rfl
theorem k24_openM {w:World} {base:Nat} {ok:Nat→Prop} {x:S24} {cs:List Value} (h:k24.M w base ok x cs):cs=[.int .i64 x.f0,.int .i64 x.f1]:=by
  obtain⟨_,_,rfl,rfl,rfl⟩:=h;exact rfl
theorem k24_mk (w:World) (x:S24)  :k24.K w x [.int .i64 x.f0,.int .i64 x.f1]:=⟨[.int .i64 x.f0],[.int .i64 x.f1],rfl,rfl,rfl⟩
theorem k24_mkM (w:World) (base:Nat) (ok:Nat→Prop) (x:S24)  :k24.M w base ok x [.int .i64 x.f0,.int .i64 x.f1]:=⟨[.int .i64 x.f0],[.int .i64 x.f1],rfl,rfl,rfl⟩
theorem k24_mkF (W:World) (ok:Nat→Prop) (x:S24):Kd.FK k24 W ok x [.int .i64 x.f0,.int .i64 x.f1]:=fun W2 _=>k24_mk W2 x
def rd_T24 (xs:List S24) (i:Int):S24:=xs.getD i.toNat z24
theorem at_T24 {w:World} {A:Option Addr} {n:Nat} {xs:List S24} (h:Kd.C k24 w A n xs) (i:Int) (h0:0≤i) (h1:i<n):∃ ad,A=some ad∧w.cell? (ad.add (i.toNat*2))=some (.int .i64 (rd_T24 xs i).f0)∧w.cell? ⟨(ad.add (i.toNat*2)).block,(ad.add (i.toNat*2)).off+1,none⟩=some (.int .i64 (rd_T24 xs i).f1):=by
  obtain⟨ad,c,e,_,hK,hc0⟩:=Kd.C_get h z24 i h0 h1;have hc:∀ j u,c[j]?=some u→w.cell? (ad.add (i.toNat*2+j))=some u:=hc0;obtain rfl:=k24_open hK;exact⟨ad,e,hc 0 _ rfl,by rw[← add_field _ _ 1 (by omega)];exact hc 1 _ rfl⟩
def rd_L2 (xs:List (List Int)) (i:Int):(List Int):=xs.getD i.toNat ([]:List Int)
theorem at_L2 {w:World} {A:Option Addr} {n:Nat} {xs:List (List Int)} (h:Kd.C (Kd.slice 3 (Kd.int .i64)) w A n xs) (i:Int) (h0:0≤i) (h1:i<n):∃ ad A0 c0,A=some ad∧w.cell? (ad.add i.toNat)=some (.slice A0 (rd_L2 xs i).length c0)∧(rd_L2 xs i).length≤c0∧(Kd.int .i64).C w A0 (rd_L2 xs i).length (rd_L2 xs i):=by
  obtain⟨ad,c,e,_,hK,hc0⟩:=Kd.C_get h ([]:List Int) i h0 h1;have hc:∀ j u,c[j]?=some u→w.cell? (ad.add (i.toNat*1+j))=some u:=hc0;obtain⟨A0,c0,rfl,l0,g0⟩:=hK;exact⟨ad,A0,c0,e,by have hq:=hc 0 _ rfl;rwa [Nat.mul_one,Nat.add_zero]at hq,l0,g0⟩
structure S127 where
  f0:Int
  f1:(List Int)
def z127:S127:=⟨(0:Int),([]:List Int)⟩
def k127:Kd S127:=Kd.iso (Kd.pair (Kd.int .i64) (Kd.slice 3 (Kd.int .i64))) (fun x:S127=>(x.f0,x.f1))
theorem k127_heap:Kd.Heap k127:=Kd.heap_iso _ (Kd.heap_pair (Kd.heap_int .i64) (Kd.heap_slice 3 (Kd.heap_int .i64)))
theorem k127_open {w:World} {x:S127} {cs:List Value} (h:k127.K w x cs):∃ A1 c1,cs=[.int .i64 x.f0,.slice A1 x.f1.length c1]∧x.f1.length≤c1∧(Kd.int .i64).C w A1 x.f1.length x.f1:=by
  obtain⟨_,_,rfl,rfl,⟨A1,c1,rfl,l1,g1⟩⟩:=h;exact⟨A1,c1,rfl,l1,g1⟩
theorem k127_openM {w:World} {base:Nat} {ok:Nat→Prop} {x:S127} {cs:List Value} (h:k127.M w base ok x cs):∃ v1,cs=[.int .i64 x.f0,v1]∧(Kd.int .i64).R 3 w base ok v1 x.f1:=by
  obtain⟨_,_,rfl,rfl,⟨v1,rfl,g1⟩⟩:=h;exact⟨v1,rfl,g1⟩
theorem k127_mk (w:World) (x:S127) {A1:Option Addr} {c1:Nat} (l1:x.f1.length≤c1) (g1:(Kd.int .i64).C w A1 x.f1.length x.f1):k127.K w x [.int .i64 x.f0,.slice A1 x.f1.length c1]:=⟨[.int .i64 x.f0],[.slice A1 x.f1.length c1],rfl,rfl,⟨A1,c1,rfl,l1,g1⟩⟩
theorem k127_mkM (w:World) (base:Nat) (ok:Nat→Prop) (x:S127) {v1:Value} (g1:(Kd.int .i64).R 3 w base ok v1 x.f1):k127.M w base ok x [.int .i64 x.f0,v1]:=⟨[.int .i64 x.f0],[v1],rfl,rfl,⟨v1,rfl,g1⟩⟩
theorem k127_openF {W:World} {ok:Nat→Prop} {x:S127} {cs:List Value} (h:Kd.FK k127 W ok x cs):∃ A1 c1,cs=[.int .i64 x.f0,.slice A1 x.f1.length c1]∧x.f1.length≤c1∧Kd.F (Kd.int .i64) W ok A1 x.f1.length x.f1:=by
  obtain⟨A1,c1,rfl,l1,_⟩:=k127_open (Kd.FK_now h);exact⟨A1,c1,rfl,l1,(fun W' hW=>by obtain⟨A1_,c1_,he,l1_,g1_⟩:=k127_open (h W' hW);injection (Option.some.inj (show some (Value.slice A1 x.f1.length c1)=some (Value.slice A1_ x.f1.length c1_)from congrArg (fun l=>l[1]?) he))with ha_ _ _;rw[ha_];exact g1_)⟩
theorem k127_mkF (W:World) (ok:Nat→Prop) (x:S127) {A1:Option Addr} {c1:Nat} (l1:x.f1.length≤c1) (g1:Kd.F (Kd.int .i64) W ok A1 x.f1.length x.f1):Kd.FK k127 W ok x [.int .i64 x.f0,.slice A1 x.f1.length c1]:=fun W2 hW=>k127_mk W2 x l1 (g1 W2 hW)
def rd_T127 (xs:List S127) (i:Int):S127:=xs.getD i.toNat z127
theorem at_T127 {w:World} {A:Option Addr} {n:Nat} {xs:List S127} (h:Kd.C k127 w A n xs) (i:Int) (h0:0≤i) (h1:i<n):∃ ad A1 c1,A=some ad∧w.cell? (ad.add (i.toNat*2))=some (.int .i64 (rd_T127 xs i).f0)∧w.cell? ⟨(ad.add (i.toNat*2)).block,(ad.add (i.toNat*2)).off+1,none⟩=some (.slice A1 (rd_T127 xs i).f1.length c1)∧(rd_T127 xs i).f1.length≤c1∧(Kd.int .i64).C w A1 (rd_T127 xs i).f1.length (rd_T127 xs i).f1:=by
  obtain⟨ad,c,e,_,hK,hc0⟩:=Kd.C_get h z127 i h0 h1;have hc:∀ j u,c[j]?=some u→w.cell? (ad.add (i.toNat*2+j))=some u:=hc0;obtain⟨A1,c1,rfl,l1,g1⟩:=k127_open hK;exact⟨ad,A1,c1,e,hc 0 _ rfl,by rw[← add_field _ _ 1 (by omega)];exact hc 1 _ rfl,l1,g1⟩
structure S133 where
  f0:Int
  f1:Int
  f2:Int
def z133:S133:=⟨(0:Int),(0:Int),(0:Int)⟩
def k133:Kd S133:=Kd.iso (Kd.pair (Kd.int .i64) (Kd.pair (Kd.int .i64) (Kd.int .i64))) (fun x:S133=>(x.f0,x.f1,x.f2))
theorem k133_heap:Kd.Heap k133:=Kd.heap_iso _ (Kd.heap_pair (Kd.heap_int .i64) (Kd.heap_pair (Kd.heap_int .i64) (Kd.heap_int .i64)))
theorem k133_open {w:World} {x:S133} {cs:List Value} (h:k133.K w x cs):cs=[.int .i64 x.f0,.int .i64 x.f1,.int .i64 x.f2]:=by
  obtain⟨_,_,rfl,rfl,⟨_,_,rfl,rfl,rfl⟩⟩:=h;exact rfl
theorem k133_openM {w:World} {base:Nat} {ok:Nat→Prop} {x:S133} {cs:List Value} (h:k133.M w base ok x cs):cs=[.int .i64 x.f0,.int .i64 x.f1,.int .i64 x.f2]:=by
  obtain⟨_,_,rfl,rfl,⟨_,_,rfl,rfl,rfl⟩⟩:=h;exact rfl
theorem k133_mk (w:World) (x:S133)  :k133.K w x [.int .i64 x.f0,.int .i64 x.f1,.int .i64 x.f2]:=⟨[.int .i64 x.f0],[.int .i64 x.f1,.int .i64 x.f2],rfl,rfl,⟨[.int .i64 x.f1],[.int .i64 x.f2],rfl,rfl,rfl⟩⟩
theorem k133_mkM (w:World) (base:Nat) (ok:Nat→Prop) (x:S133)  :k133.M w base ok x [.int .i64 x.f0,.int .i64 x.f1,.int .i64 x.f2]:=⟨[.int .i64 x.f0],[.int .i64 x.f1,.int .i64 x.f2],rfl,rfl,⟨[.int .i64 x.f1],[.int .i64 x.f2],rfl,rfl,rfl⟩⟩
theorem k133_mkF (W:World) (ok:Nat→Prop) (x:S133):Kd.FK k133 W ok x [.int .i64 x.f0,.int .i64 x.f1,.int .i64 x.f2]:=fun W2 _=>k133_mk W2 x
def rd_T133 (xs:List S133) (i:Int):S133:=xs.getD i.toNat z133
theorem at_T133 {w:World} {A:Option Addr} {n:Nat} {xs:List S133} (h:Kd.C k133 w A n xs) (i:Int) (h0:0≤i) (h1:i<n):∃ ad,A=some ad∧w.cell? (ad.add (i.toNat*3))=some (.int .i64 (rd_T133 xs i).f0)∧w.cell? ⟨(ad.add (i.toNat*3)).block,(ad.add (i.toNat*3)).off+1,none⟩=some (.int .i64 (rd_T133 xs i).f1)∧w.cell? ⟨(ad.add (i.toNat*3)).block,(ad.add (i.toNat*3)).off+2,none⟩=some (.int .i64 (rd_T133 xs i).f2):=by
  obtain⟨ad,c,e,_,hK,hc0⟩:=Kd.C_get h z133 i h0 h1;have hc:∀ j u,c[j]?=some u→w.cell? (ad.add (i.toNat*3+j))=some u:=hc0;obtain rfl:=k133_open hK;exact⟨ad,e,hc 0 _ rfl,by rw[← add_field _ _ 1 (by omega)];exact hc 1 _ rfl,by rw[← add_field _ _ 2 (by omega)];exact hc 2 _ rfl⟩
structure S143 where
  f0:Int
  f1:Int
  f2:Int
def z143:S143:=⟨(0:Int),(0:Int),(0:Int)⟩
def k143:Kd S143:=Kd.iso (Kd.pair (Kd.int .i64) (Kd.pair (Kd.int .i64) (Kd.int .i64))) (fun x:S143=>(x.f0,x.f1,x.f2))
theorem k143_heap:Kd.Heap k143:=Kd.heap_iso _ (Kd.heap_pair (Kd.heap_int .i64) (Kd.heap_pair (Kd.heap_int .i64) (Kd.heap_int .i64)))
theorem k143_open {w:World} {x:S143} {cs:List Value} (h:k143.K w x cs):cs=[.int .i64 x.f0,.int .i64 x.f1,.int .i64 x.f2]:=by
  obtain⟨_,_,rfl,rfl,⟨_,_,rfl,rfl,rfl⟩⟩:=h;exact rfl
theorem k143_openM {w:World} {base:Nat} {ok:Nat→Prop} {x:S143} {cs:List Value} (h:k143.M w base ok x cs):cs=[.int .i64 x.f0,.int .i64 x.f1,.int .i64 x.f2]:=by
  obtain⟨_,_,rfl,rfl,⟨_,_,rfl,rfl,rfl⟩⟩:=h;exact rfl
theorem k143_mk (w:World) (x:S143)  :k143.K w x [.int .i64 x.f0,.int .i64 x.f1,.int .i64 x.f2]:=⟨[.int .i64 x.f0],[.int .i64 x.f1,.int .i64 x.f2],rfl,rfl,⟨[.int .i64 x.f1],[.int .i64 x.f2],rfl,rfl,rfl⟩⟩
theorem k143_mkM (w:World) (base:Nat) (ok:Nat→Prop) (x:S143)  :k143.M w base ok x [.int .i64 x.f0,.int .i64 x.f1,.int .i64 x.f2]:=⟨[.int .i64 x.f0],[.int .i64 x.f1,.int .i64 x.f2],rfl,rfl,⟨[.int .i64 x.f1],[.int .i64 x.f2],rfl,rfl,rfl⟩⟩
theorem k143_mkF (W:World) (ok:Nat→Prop) (x:S143):Kd.FK k143 W ok x [.int .i64 x.f0,.int .i64 x.f1,.int .i64 x.f2]:=fun W2 _=>k143_mk W2 x
def rd_T143 (xs:List S143) (i:Int):S143:=xs.getD i.toNat z143
theorem at_T143 {w:World} {A:Option Addr} {n:Nat} {xs:List S143} (h:Kd.C k143 w A n xs) (i:Int) (h0:0≤i) (h1:i<n):∃ ad,A=some ad∧w.cell? (ad.add (i.toNat*3))=some (.int .i64 (rd_T143 xs i).f0)∧w.cell? ⟨(ad.add (i.toNat*3)).block,(ad.add (i.toNat*3)).off+1,none⟩=some (.int .i64 (rd_T143 xs i).f1)∧w.cell? ⟨(ad.add (i.toNat*3)).block,(ad.add (i.toNat*3)).off+2,none⟩=some (.int .i64 (rd_T143 xs i).f2):=by
  obtain⟨ad,c,e,_,hK,hc0⟩:=Kd.C_get h z143 i h0 h1;have hc:∀ j u,c[j]?=some u→w.cell? (ad.add (i.toNat*3+j))=some u:=hc0;obtain rfl:=k143_open hK;exact⟨ad,e,hc 0 _ rfl,by rw[← add_field _ _ 1 (by omega)];exact hc 1 _ rfl,by rw[← add_field _ _ 2 (by omega)];exact hc 2 _ rfl⟩
structure S40 where
  f0:Int
  f1:Int
def z40:S40:=⟨(0:Int),(0:Int)⟩
def k40:Kd S40:=Kd.iso (Kd.pair (Kd.int .i64) (Kd.int .i64)) (fun x:S40=>(x.f0,x.f1))
theorem k40_heap:Kd.Heap k40:=Kd.heap_iso _ (Kd.heap_pair (Kd.heap_int .i64) (Kd.heap_int .i64))
theorem k40_open {w:World} {x:S40} {cs:List Value} (h:k40.K w x cs):cs=[.int .i64 x.f0,.int .i64 x.f1]:=by
  obtain⟨_,_,rfl,rfl,rfl⟩:=h;exact rfl
theorem k40_openM {w:World} {base:Nat} {ok:Nat→Prop} {x:S40} {cs:List Value} (h:k40.M w base ok x cs):cs=[.int .i64 x.f0,.int .i64 x.f1]:=by
  obtain⟨_,_,rfl,rfl,rfl⟩:=h;exact rfl
theorem k40_mk (w:World) (x:S40)  :k40.K w x [.int .i64 x.f0,.int .i64 x.f1]:=⟨[.int .i64 x.f0],[.int .i64 x.f1],rfl,rfl,rfl⟩
theorem k40_mkM (w:World) (base:Nat) (ok:Nat→Prop) (x:S40)  :k40.M w base ok x [.int .i64 x.f0,.int .i64 x.f1]:=⟨[.int .i64 x.f0],[.int .i64 x.f1],rfl,rfl,rfl⟩
theorem k40_mkF (W:World) (ok:Nat→Prop) (x:S40):Kd.FK k40 W ok x [.int .i64 x.f0,.int .i64 x.f1]:=fun W2 _=>k40_mk W2 x
def rd_T40 (xs:List S40) (i:Int):S40:=xs.getD i.toNat z40
theorem at_T40 {w:World} {A:Option Addr} {n:Nat} {xs:List S40} (h:Kd.C k40 w A n xs) (i:Int) (h0:0≤i) (h1:i<n):∃ ad,A=some ad∧w.cell? (ad.add (i.toNat*2))=some (.int .i64 (rd_T40 xs i).f0)∧w.cell? ⟨(ad.add (i.toNat*2)).block,(ad.add (i.toNat*2)).off+1,none⟩=some (.int .i64 (rd_T40 xs i).f1):=by
  obtain⟨ad,c,e,_,hK,hc0⟩:=Kd.C_get h z40 i h0 h1;have hc:∀ j u,c[j]?=some u→w.cell? (ad.add (i.toNat*2+j))=some u:=hc0;obtain rfl:=k40_open hK;exact⟨ad,e,hc 0 _ rfl,by rw[← add_field _ _ 1 (by omega)];exact hc 1 _ rfl⟩
structure S74 where
  f0:S24
  f1:S24
def z74:S74:=⟨z24,z24⟩
def k74:Kd S74:=Kd.iso (Kd.pair k24 k24) (fun x:S74=>(x.f0,x.f1))
theorem k74_heap:Kd.Heap k74:=Kd.heap_iso _ (Kd.heap_pair k24_heap k24_heap)
theorem k74_open {w:World} {x:S74} {cs:List Value} (h:k74.K w x cs):cs=[.int .i64 x.f0.f0,.int .i64 x.f0.f1,.int .i64 x.f1.f0,.int .i64 x.f1.f1]:=by
  obtain⟨_,_,rfl,s0,s2⟩:=h;obtain rfl:=k24_open s0;obtain rfl:=k24_open s2;exact rfl
theorem k74_openM {w:World} {base:Nat} {ok:Nat→Prop} {x:S74} {cs:List Value} (h:k74.M w base ok x cs):cs=[.int .i64 x.f0.f0,.int .i64 x.f0.f1,.int .i64 x.f1.f0,.int .i64 x.f1.f1]:=by
  obtain⟨_,_,rfl,s0,s2⟩:=h;obtain rfl:=k24_openM s0;obtain rfl:=k24_openM s2;exact rfl
theorem k74_mk (w:World) (x:S74)  :k74.K w x [.int .i64 x.f0.f0,.int .i64 x.f0.f1,.int .i64 x.f1.f0,.int .i64 x.f1.f1]:=⟨[.int .i64 x.f0.f0,.int .i64 x.f0.f1],[.int .i64 x.f1.f0,.int .i64 x.f1.f1],rfl,(k24_mk w x.f0 ),(k24_mk w x.f1 )⟩
theorem k74_mkM (w:World) (base:Nat) (ok:Nat→Prop) (x:S74)  :k74.M w base ok x [.int .i64 x.f0.f0,.int .i64 x.f0.f1,.int .i64 x.f1.f0,.int .i64 x.f1.f1]:=⟨[.int .i64 x.f0.f0,.int .i64 x.f0.f1],[.int .i64 x.f1.f0,.int .i64 x.f1.f1],rfl,(k24_mkM w base ok x.f0 ),(k24_mkM w base ok x.f1 )⟩
theorem k74_mkF (W:World) (ok:Nat→Prop) (x:S74):Kd.FK k74 W ok x [.int .i64 x.f0.f0,.int .i64 x.f0.f1,.int .i64 x.f1.f0,.int .i64 x.f1.f1]:=fun W2 _=>k74_mk W2 x
def rd_T74 (xs:List S74) (i:Int):S74:=xs.getD i.toNat z74
theorem at_T74 {w:World} {A:Option Addr} {n:Nat} {xs:List S74} (h:Kd.C k74 w A n xs) (i:Int) (h0:0≤i) (h1:i<n):∃ ad,A=some ad∧w.cell? (ad.add (i.toNat*4))=some (.int .i64 (rd_T74 xs i).f0.f0)∧w.cell? ⟨(ad.add (i.toNat*4)).block,(ad.add (i.toNat*4)).off+1,none⟩=some (.int .i64 (rd_T74 xs i).f0.f1)∧w.cell? ⟨(ad.add (i.toNat*4)).block,(ad.add (i.toNat*4)).off+2,none⟩=some (.int .i64 (rd_T74 xs i).f1.f0)∧w.cell? ⟨(ad.add (i.toNat*4)).block,(ad.add (i.toNat*4)).off+3,none⟩=some (.int .i64 (rd_T74 xs i).f1.f1):=by
  obtain⟨ad,c,e,_,hK,hc0⟩:=Kd.C_get h z74 i h0 h1;have hc:∀ j u,c[j]?=some u→w.cell? (ad.add (i.toNat*4+j))=some u:=hc0;obtain rfl:=k74_open hK;exact⟨ad,e,hc 0 _ rfl,by rw[← add_field _ _ 1 (by omega)];exact hc 1 _ rfl,by rw[← add_field _ _ 2 (by omega)];exact hc 2 _ rfl,by rw[← add_field _ _ 3 (by omega)];exact hc 3 _ rfl⟩
end
section
theorem eqA24 (d:Nat) (w:World) (x0 y0:Int) (x1 y1:Int):
  (Op.equalIn (d+2) 24 (.agg #[.int .i64 x0,.int .i64 x1]) (.agg #[.int .i64 y0,.int .i64 y1])).run Tryz.prog w= .ok (x0==y0 && (x1==y1)) w:=by
 refine eqA_of Tryz.underlying24 (by kernel_rfl) ?_;refine eqf_cons (by rfl) (by go_simp;rfl) (by go_simp;rfl) (by go_simp) ?_;exact eqf_last (by rfl) (by go_simp;rfl) (by go_simp;rfl) (by go_simp)
end
section
attribute [local go_sem high] eqA24
def Bs_Fracs.l0:Nat→List (S24)→List (S24)→Int→Option (Bool)
 |0,_,_,_=>none
 |k+1,x0,x1,x5=>if x5<(x0.length:Int)then(if 0≤x5 then(if x5<(x1.length:Int)then(if(!(((rd_T24 x0 x5).f0)==((rd_T24 x1 x5).f0)) || (!(((rd_T24 x0 x5).f1)==((rd_T24 x1 x5).f1))))=true then(some false)else(Bs_Fracs.l0 k x0 x1 (wrap64 (x5+1))))else(none))else(none))else(some true)
def Bs_Fracs.f (k:Nat) (l0:List (S24)) (l1:List (S24)):Option (Bool):=if(l0.length:Int)=(l1.length:Int)then(Bs_Fracs.l0 k l0 l1 0)else(some false)
theorem Bs_Fracs.mono_l:∀ k,(∀ y0 y1 y2,LeO (Bs_Fracs.l0 k y0 y1 y2) (Bs_Fracs.l0 (k+1) y0 y1 y2))
 |0=>fun _ _ _ r h=>by simp[Bs_Fracs.l0]at h
 | k+1=>by
  have ih0:=Bs_Fracs.mono_l k
  ·intro y0 y1 y2;unfold Bs_Fracs.l0
   repeat' with_reducible first
    |exact ih0 ..
    |exact LeO.refl ..
    |exact LeO.none ..
    |refine LeO.ite ?_ ?_
    |refine LeO.bind ?_ (fun _=>?_)
theorem Bs_Fracs.mono:∀ a0 a1 k,LeO (Bs_Fracs.f k a0 a1) (Bs_Fracs.f (k+1) a0 a1):=by
 intro a0 a1 k;have ih0:=Bs_Fracs.mono_l k;unfold Bs_Fracs.f
 repeat' with_reducible first
  |exact ih0 ..
  |exact LeO.refl ..
  |exact LeO.none ..
  |refine LeO.ite ?_ ?_
  |refine LeO.bind ?_ (fun _=>?_)
theorem Bs_Fracs.calls (k:Nat) (A0:Option Addr) (c0:Nat) (l0:List (S24)) (A1:Option Addr) (c1:Nat) (l1:List (S24)) (r:Bool) (w:World) (hr0:Kd.C k24 w A0 l0.length l0) (hc0:l0.length≤c0) (hr1:Kd.C k24 w A1 l1.length l1) (hc1:l1.length≤c1) (H:Bs_Fracs.f k l0 l1=some r):
  Calls Tryz.prog 33 #[.slice A0 l0.length c0,.slice A1 l1.length c1] w fun e w'=>e= .returned (.bool r)∧Drawn0 w w':=by
 have hu24:=Tryz.underlying24;have HR0:=m0 hr0;have HC0:=m0 hc0;clear hr0 hc0;have HR1:=m0 hr1;have HC1:=m0 hc1;clear hr1 hc1;unfold Bs_Fracs.f at H
 by_cases c3:(l0.length:Int)=(l1.length:Int)
 ·rw [if_pos c3]at H;have c3b0:=beq_iff_eq.mpr c3;have c3b1:=bne_eq_false_iff_eq.mpr c3;have c3b2:(l0.length==l1.length)=true:=by first|simpa using c3|(simp at c3 ⊢;omega)
  clear c3;have H':=m0 H;clear H;go_enter Tryz.func33,Tryz.ntmps33
  go_wp2
  repeat(go_quiet (fail);try go_wp2)
  go_loopg [5] k (fun kq v5 w'=>∃ (x5_1:Int),v5= .int .i64 x5_1∧Aside0 (Bs_Fracs.l0 kq l0 l1 x5_1=some r)∧Aside0 (kq≤k)∧Drawn0 w w')
  case atStart=>exact⟨(0),rz,H',⟨Nat.le_refl _⟩,by repeat(first|exact Drawn0.refl _|apply Drawn0.step)⟩
  case round=>
   clear H';obtain⟨x5_1,rfl,HA,HK1,⟨m1,rfl⟩⟩:=hrel
   cases gk with
   |zero=>exact absurd HA.out (by simp[Bs_Fracs.l0])
   | succ k1=>
    have H:=HA.out;clear HA;simp only[Bs_Fracs.l0]at H
    by_cases c4:x5_1<(l0.length:Int)
    ·rw [if_pos c4]at H;have c4b0:=decide_eq_true c4;clear c4
     by_cases c5:0≤x5_1
     ·rw [if_pos c5]at H;have c5b0:=decide_eq_true c5;clear c5
      by_cases c6:x5_1<(l1.length:Int)
      ·rw [if_pos c6]at H;have c6b0:=decide_eq_true c6;clear c6
       by_cases c7:(!(((rd_T24 l0 x5_1).f0)==((rd_T24 l1 x5_1).f0)) || (!(((rd_T24 l0 x5_1).f1)==((rd_T24 l1 x5_1).f1))))=true
       ·rw [if_pos c7]at H;have c7b0:(!(((rd_T24 l0 x5_1).f0)==((rd_T24 l1 x5_1).f0)) || (!(((rd_T24 l0 x5_1).f1)==((rd_T24 l1 x5_1).f1))))=true:=c7;clear c7;obtain rfl:=Option.some.inj H;have p101:0≤(x5_1:Int):=od;have q101:x5_1<(l0.length:Int):=od;obtain⟨ad101,e101,hx101_0,hx101_1⟩:=at_T24 HR0.out x5_1 p101 q101
        cases e101
        replace p101:=eq_true p101;replace q101:=eq_true q101;have p102:0≤(x5_1:Int):=od;have q102:x5_1<(l1.length:Int):=od;obtain⟨ad102,e102,hx102_0,hx102_1⟩:=at_T24 HR1.out x5_1 p102 q102
        cases e102
        replace p102:=eq_true p102;replace q102:=eq_true q102
        go_wp2
        repeat(go_quiet (fail);try go_wp2)
        go_ret
        exact⟨rz,by repeat(first|exact Drawn0.refl _|apply Drawn0.step)⟩
       ·rw [if_neg c7]at H;have c7b0:(!(((rd_T24 l0 x5_1).f0)==((rd_T24 l1 x5_1).f0)) || (!(((rd_T24 l0 x5_1).f1)==((rd_T24 l1 x5_1).f1))))=false:=by simpa using c7
        clear c7;have H':=m0 H;clear H;have p101:0≤(x5_1:Int):=od;have q101:x5_1<(l0.length:Int):=od;obtain⟨ad101,e101,hx101_0,hx101_1⟩:=at_T24 HR0.out x5_1 p101 q101
        cases e101
        replace p101:=eq_true p101;replace q101:=eq_true q101;have p102:0≤(x5_1:Int):=od;have q102:x5_1<(l1.length:Int):=od;obtain⟨ad102,e102,hx102_0,hx102_1⟩:=at_T24 HR1.out x5_1 p102 q102
        cases e102
        replace p102:=eq_true p102;replace q102:=eq_true q102
        go_wp2
        repeat(go_quiet (fail);try go_wp2)
        go_roundg k1
        case measure=>have:=HK1.out;omega
        case rel=>exact⟨(wrap64 (x5_1+1)),rz,H',⟨by have:=HK1.out;omega⟩,by repeat(first|exact Drawn0.refl _|apply Drawn0.step)⟩
      ·rw [if_neg c6]at H;exact absurd H (by simp)
     ·rw [if_neg c5]at H;exact absurd H (by simp)
    ·rw [if_neg c4]at H;have c4b0:=decide_eq_false c4;clear c4;obtain rfl:=Option.some.inj H
     go_wp2
     repeat(go_quiet (fail);try go_wp2)
     go_ret
     exact⟨rz,by repeat(first|exact Drawn0.refl _|apply Drawn0.step)⟩
 ·rw [if_neg c3]at H;have c3b0:=beq_eq_false_iff_ne.mpr c3;have c3b1:=bne_iff_ne.mpr c3;have c3b2:(l0.length==l1.length)=false:=by first|simpa using c3|(simp at c3 ⊢;omega)
  obtain rfl:=Option.some.inj H;go_enter Tryz.func33,Tryz.ntmps33
  go_wp2
  repeat(go_quiet (fail);try go_wp2)
  go_ret
  exact⟨rz,by repeat(first|exact Drawn0.refl _|apply Drawn0.step)⟩
end
section
def L_first.l0:Nat→List Int→Int→Int→Option (Int)
 |0,_,_,_=>none
 |k+1,x5,x6,x7=>if x7<x6 then(if 0≤x7 then(if x7<(x5.length:Int)then(if(rd x5 x7)=0 then(L_first.l0 k x5 x6 (wrap64 (x7+1)))else(some (rd x5 x7)))else(none))else(none))else(some 0)
def L_first.f (k:Nat) (l0:List Int):Option (Int):=L_first.l0 k l0 (l0.length:Int) 0
theorem L_first.mono_l:∀ k,(∀ y0 y1 y2,LeO (L_first.l0 k y0 y1 y2) (L_first.l0 (k+1) y0 y1 y2))
 |0=>fun _ _ _ r h=>by simp[L_first.l0]at h
 | k+1=>by
  have ih0:=L_first.mono_l k
  ·intro y0 y1 y2;unfold L_first.l0
   repeat' with_reducible first
    |exact ih0 ..
    |exact LeO.refl ..
    |exact LeO.none ..
    |refine LeO.ite ?_ ?_
    |refine LeO.bind ?_ (fun _=>?_)
theorem L_first.mono:∀ a0 k,LeO (L_first.f k a0) (L_first.f (k+1) a0):=by
 intro a0 k;have ih0:=L_first.mono_l k;unfold L_first.f
 repeat' with_reducible first
  |exact ih0 ..
  |exact LeO.refl ..
  |exact LeO.none ..
  |refine LeO.ite ?_ ?_
  |refine LeO.bind ?_ (fun _=>?_)
theorem L_first.calls (k:Nat) (A0:Option Addr) (c0:Nat) (l0:List Int) (r:Int) (w:World) (hr0:Kd.C (Kd.int .i64) w A0 l0.length l0) (hc0:l0.length≤c0) (H:L_first.f k l0=some r):
  Calls Tryz.prog 48 #[.slice A0 l0.length c0] w fun e w'=>e= .returned (.int .i64 r)∧Drawn0 w w':=by
 have HR0:=m0 hr0;have HC0:=m0 hc0;clear hr0 hc0;unfold L_first.f at H;have H':=m0 H;clear H;go_enter Tryz.func48,Tryz.ntmps48
 go_wp2
 go_loopg [7] k (fun kq v7 w'=>∃ (x7_1:Int),v7= .int .i64 x7_1∧Aside0 (L_first.l0 kq l0 (l0.length:Int) x7_1=some r)∧Aside0 (kq≤k)∧Drawn0 w w')
 case atStart=>exact⟨(0),rz,H',⟨Nat.le_refl _⟩,by repeat(first|exact Drawn0.refl _|apply Drawn0.step)⟩
 case round=>
  clear H';obtain⟨x7_1,rfl,HA,HK1,⟨m1,rfl⟩⟩:=hrel
  cases gk with
  |zero=>exact absurd HA.out (by simp[L_first.l0])
  | succ k1=>
   have H:=HA.out;clear HA;simp only[L_first.l0]at H
   by_cases c2:x7_1<(l0.length:Int)
   ·rw [if_pos c2]at H;have c2b0:=decide_eq_true c2;clear c2
    by_cases c3:0≤x7_1
    ·rw [if_pos c3]at H;have c3b0:=decide_eq_true c3;clear c3
     by_cases c4:x7_1<(l0.length:Int)
     ·rw [if_pos c4]at H;have c4b0:=decide_eq_true c4;clear c4
      by_cases c5:(rd l0 x7_1)=0
      ·rw [if_pos c5]at H;have c5b0:=beq_iff_eq.mpr c5;have c5b1:=bne_eq_false_iff_eq.mpr c5;clear c5;have H':=m0 H;clear H;have p103:0≤(x7_1:Int):=od;have q103:x7_1<(l0.length:Int):=od;obtain⟨ad103,e103,hx103_0⟩:=Kd.at_int HR0.out x7_1 p103 q103
       cases e103
       replace p103:=eq_true p103;replace q103:=eq_true q103
       go_wp2
       go_roundg k1
       case measure=>have:=HK1.out;omega
       case rel=>exact⟨(wrap64 (x7_1+1)),rz,H',⟨by have:=HK1.out;omega⟩,by repeat(first|exact Drawn0.refl _|apply Drawn0.step)⟩
      ·rw [if_neg c5]at H;have c5b0:=beq_eq_false_iff_ne.mpr c5;have c5b1:=bne_iff_ne.mpr c5;obtain rfl:=Option.some.inj H;have p103:0≤(x7_1:Int):=od;have q103:x7_1<(l0.length:Int):=od;obtain⟨ad103,e103,hx103_0⟩:=Kd.at_int HR0.out x7_1 p103 q103
       cases e103
       replace p103:=eq_true p103;replace q103:=eq_true q103
       go_wp2
       go_ret
       exact⟨rz,by repeat(first|exact Drawn0.refl _|apply Drawn0.step)⟩
     ·rw [if_neg c4]at H;exact absurd H (by simp)
    ·rw [if_neg c3]at H;exact absurd H (by simp)
   ·rw [if_neg c2]at H;have c2b0:=decide_eq_false c2;clear c2;obtain rfl:=Option.some.inj H
    go_wp2
    go_ret
    exact⟨rz,by repeat(first|exact Drawn0.refl _|apply Drawn0.step)⟩
end
section
def L_unless.f (a0:Bool) (a1:Int):Option (Int):=if a0=true then(some 0)else(some a1)
theorem L_unless.calls (a0:Bool) (a1:Int) (r:Int) (w:World) (H:L_unless.f a0 a1=some r):
  Calls Tryz.prog 49 #[.bool a0,.int .i64 a1] w fun e w'=>e= .returned (.int .i64 r)∧Drawn0 w w':=by
 unfold L_unless.f at H
 by_cases c3:a0=true
 ·subst c3;rw[if_pos rfl]at H;obtain rfl:=Option.some.inj H;go_enter Tryz.func49,Tryz.ntmps49
  go_wp2
  go_ret
  exact⟨rz,by repeat(first|exact Drawn0.refl _|apply Drawn0.step)⟩
 ·replace c3:=Bool.eq_false_iff.mpr c3;subst c3;rw[if_neg (show ¬ (false=true) by decide)]at H;obtain rfl:=Option.some.inj H;go_enter Tryz.func49,Tryz.ntmps49
  go_wp2
  go_ret
  exact⟨rz,by repeat(first|exact Drawn0.refl _|apply Drawn0.step)⟩
end
section
def L_within.f (a0:Int) (a1:Int) (a2:Int):Option (Bool):=if a1≤a0 then(some (decide (a0≤a2)))else(some false)
theorem L_within.calls (a0:Int) (a1:Int) (a2:Int) (r:Bool) (w:World) (H:L_within.f a0 a1 a2=some r):
  Calls Tryz.prog 46 #[.int .i64 a0,.int .i64 a1,.int .i64 a2] w fun e w'=>e= .returned (.bool r)∧Drawn0 w w':=by
 unfold L_within.f at H
 by_cases c4:a1≤a0
 ·rw [if_pos c4]at H;have c4b0:=decide_eq_true c4;clear c4;obtain rfl:=Option.some.inj H;go_enter Tryz.func46,Tryz.ntmps46
  go_wp2
  go_ret
  exact⟨rz,by repeat(first|exact Drawn0.refl _|apply Drawn0.step)⟩
 ·rw [if_neg c4]at H;have c4b0:=decide_eq_false c4;clear c4;obtain rfl:=Option.some.inj H;go_enter Tryz.func46,Tryz.ntmps46
  go_wp2
  go_ret
  exact⟨rz,by repeat(first|exact Drawn0.refl _|apply Drawn0.step)⟩
end
section
def L_isSignal.f (a0:Int):Option (Bool):=(L_within.f a0 0 10000).bind fun t104=>(some t104)
theorem L_isSignal.calls (a0:Int) (r:Bool) (w:World) (H:L_isSignal.f a0=some r):
  Calls Tryz.prog 116 #[.int .i64 a0] w fun e w'=>e= .returned (.bool r)∧Drawn0 w w':=by
 unfold L_isSignal.f at H;replace H:=oa H;obtain⟨t104,A2,H⟩:=H;(try dsimp only at H);obtain rfl:=Option.some.inj H;go_enter Tryz.func116,Tryz.ntmps116
 go_wp2_with (first|((with_reducible refine gc 46 rfl ?_);refine gl (some 4) Tryz.func46 #[.int .i64 a0,.int .i64 0,.int .i64 10000] ?_;(with_reducible refine(L_within.calls a0 0 10000 t104 _ A2.out).mono ?_);rintro e w' ⟨rfl,⟨nd,rfl⟩⟩;refine⟨_,rfl,?_⟩))
 go_ret
 exact⟨rz,by repeat(first|exact Drawn0.refl _|apply Drawn0.step)⟩
end
section
def L_CheckProfile_1.f (a0:Int):Option (Int):=(L_isSignal.f a0).bind fun t105=>((L_unless.f t105 2).bind fun t106=>(some t106))
theorem L_CheckProfile_1.calls (a0:Int) (r:Int) (w:World) (H:L_CheckProfile_1.f a0=some r):
  Calls Tryz.prog 115 #[.int .i64 a0] w fun e w'=>e= .returned (.int .i64 r)∧Drawn0 w w':=by
 unfold L_CheckProfile_1.f at H;replace H:=oa H;obtain⟨t105,A2,H⟩:=H;(try dsimp only at H);replace H:=oa H;obtain⟨t106,A3,H⟩:=H;(try dsimp only at H);obtain rfl:=Option.some.inj H;go_enter Tryz.func115,Tryz.ntmps115
 go_wp2_with (first|((with_reducible refine gc 116 rfl ?_);refine gl (some 4) Tryz.func116 #[.int .i64 a0] ?_;(with_reducible refine(L_isSignal.calls a0 t105 _ A2.out).mono ?_);rintro e w' ⟨rfl,⟨nd,rfl⟩⟩;refine⟨_,rfl,?_⟩)|((with_reducible refine gc 49 rfl ?_);refine gl (some 5) Tryz.func49 #[.bool t105,.int .i64 2] ?_;(with_reducible refine(L_unless.calls t105 2 t106 _ A3.out).mono ?_);rintro e w' ⟨rfl,⟨nd,rfl⟩⟩;refine⟨_,rfl,?_⟩))
 go_ret
 exact⟨rz,by repeat(first|exact Drawn0.refl _|apply Drawn0.step)⟩
end
section
def L_each_int_CheckProfile_1.l0:Nat→List Int→Int→Int→Option (Int×Int)
 |0,_,_,_=>none
 |k+1,x9,x10,x11=>if x11<x10 then(if 0≤x11 then(if x11<(x9.length:Int)then((L_CheckProfile_1.f (rd x9 x11)).bind fun t108=>(if t108=0 then(L_each_int_CheckProfile_1.l0 k x9 x10 (wrap64 (x11+1)))else(some (x11,t108))))else(none))else(none))else(some (0,0))
def L_each_int_CheckProfile_1.f (k:Nat) (l0:List Int)  :Option (Int×Int):=L_each_int_CheckProfile_1.l0 k l0 (l0.length:Int) 0
theorem L_each_int_CheckProfile_1.mono_l:∀ k,(∀ y0 y1 y2,LeO (L_each_int_CheckProfile_1.l0 k y0 y1 y2) (L_each_int_CheckProfile_1.l0 (k+1) y0 y1 y2))
 |0=>fun _ _ _ r h=>by simp[L_each_int_CheckProfile_1.l0]at h
 | k+1=>by
  have ih0:=L_each_int_CheckProfile_1.mono_l k
  ·intro y0 y1 y2;unfold L_each_int_CheckProfile_1.l0
   repeat' with_reducible first
    |exact ih0 ..
    |exact LeO.refl ..
    |exact LeO.none ..
    |refine LeO.ite ?_ ?_
    |refine LeO.bind ?_ (fun _=>?_)
theorem L_each_int_CheckProfile_1.mono:∀ a0 k,LeO (L_each_int_CheckProfile_1.f k a0) (L_each_int_CheckProfile_1.f (k+1) a0):=by
 intro a0 k;have ih0:=L_each_int_CheckProfile_1.mono_l k;unfold L_each_int_CheckProfile_1.f
 repeat' with_reducible first
  |exact ih0 ..
  |exact LeO.refl ..
  |exact LeO.none ..
  |refine LeO.ite ?_ ?_
  |refine LeO.bind ?_ (fun _=>?_)
theorem L_each_int_CheckProfile_1.calls (k:Nat) (A0:Option Addr) (c0:Nat) (l0:List Int)  (r1:Int) (r2:Int) (w:World) (hr0:Kd.C (Kd.int .i64) w A0 l0.length l0) (hc0:l0.length≤c0) (H:L_each_int_CheckProfile_1.f k l0=some (r1,r2)):
  Calls Tryz.prog 114 #[.slice A0 l0.length c0,.func (.func 115) #[] #[]] w fun e w'=>e= .returned (.tuple #[.int .i64 r1,.int .i64 r2])∧Drawn0 w w':=by
 have HR0:=m0 hr0;have HC0:=m0 hc0;clear hr0 hc0;unfold L_each_int_CheckProfile_1.f at H;have H':=m0 H;clear H;go_enter Tryz.func114,Tryz.ntmps114
 go_wp2
 go_loopg [11] k (fun kq v11 w'=>∃ (x11_1:Int),v11= .int .i64 x11_1∧Aside0 (L_each_int_CheckProfile_1.l0 kq l0 (l0.length:Int) x11_1=some (r1,r2))∧Aside0 (kq≤k)∧Drawn0 w w')
 case atStart=>exact⟨(0),rz,H',⟨Nat.le_refl _⟩,by repeat(first|exact Drawn0.refl _|apply Drawn0.step)⟩
 case round=>
  clear H';obtain⟨x11_1,rfl,HA,HK1,⟨m1,rfl⟩⟩:=hrel
  cases gk with
  |zero=>exact absurd HA.out (by simp[L_each_int_CheckProfile_1.l0])
  | succ k1=>
   have H:=HA.out;clear HA;simp only[L_each_int_CheckProfile_1.l0]at H
   by_cases c3:x11_1<(l0.length:Int)
   ·rw [if_pos c3]at H;have c3b0:=decide_eq_true c3;clear c3
    by_cases c4:0≤x11_1
    ·rw [if_pos c4]at H;have c4b0:=decide_eq_true c4;clear c4
     by_cases c5:x11_1<(l0.length:Int)
     ·rw [if_pos c5]at H;have c5b0:=decide_eq_true c5;clear c5;replace H:=oa H;obtain⟨t108,A6,H⟩:=H;(try dsimp only at H)
      by_cases c7:t108=0
      ·rw [if_pos c7]at H;have c7b0:=beq_iff_eq.mpr c7;have c7b1:=bne_eq_false_iff_eq.mpr c7;clear c7;have H':=m0 H;clear H;have p107:0≤(x11_1:Int):=od;have q107:x11_1<(l0.length:Int):=od;obtain⟨ad107,e107,hx107_0⟩:=Kd.at_int HR0.out x11_1 p107 q107
       cases e107
       replace p107:=eq_true p107;replace q107:=eq_true q107
       go_wp2_with (first|(go_at_call 115;(with_reducible refine(L_CheckProfile_1.calls (rd l0 x11_1) t108 _ A6.out).mono ?_);rintro e w' ⟨rfl,⟨nd,rfl⟩⟩))
       go_roundg k1
       case measure=>have:=HK1.out;omega
       case rel=>exact⟨(wrap64 (x11_1+1)),rz,H',⟨by have:=HK1.out;omega⟩,by repeat(first|exact Drawn0.refl _|apply Drawn0.step)⟩
      ·rw [if_neg c7]at H;have c7b0:=beq_eq_false_iff_ne.mpr c7;have c7b1:=bne_iff_ne.mpr c7;simp only[Option.some.injEq,Prod.mk.injEq]at H;obtain⟨rfl,rfl⟩:=H;have p107:0≤(x11_1:Int):=od;have q107:x11_1<(l0.length:Int):=od;obtain⟨ad107,e107,hx107_0⟩:=Kd.at_int HR0.out x11_1 p107 q107
       cases e107
       replace p107:=eq_true p107;replace q107:=eq_true q107
       go_wp2_with (first|(go_at_call 115;(with_reducible refine(L_CheckProfile_1.calls (rd l0 x11_1) t108 _ A6.out).mono ?_);rintro e w' ⟨rfl,⟨nd,rfl⟩⟩))
       go_ret2
       exact⟨rz,by repeat(first|exact Drawn0.refl _|apply Drawn0.step)⟩
     ·rw [if_neg c5]at H;exact absurd H (by simp)
    ·rw [if_neg c4]at H;exact absurd H (by simp)
   ·rw [if_neg c3]at H;have c3b0:=decide_eq_false c3;clear c3;simp only[Option.some.injEq,Prod.mk.injEq]at H;obtain⟨rfl,rfl⟩:=H
    go_wp2
    go_ret2
    exact⟨rz,by repeat(first|exact Drawn0.refl _|apply Drawn0.step)⟩
end
end Go.Proofs.YteiafijbgjgiaaaGreat.A
