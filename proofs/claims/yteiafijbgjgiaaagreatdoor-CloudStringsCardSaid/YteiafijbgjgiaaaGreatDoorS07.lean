/- Walks of the program's functions (printed, made shorter), each with what it computes. -/
import Derived.Test.YteiafijbgjgiaaaGreatDoorProg
import Derived.Lib.AtoiAll
import Derived.Lib.Bytealg
import Derived.Lib.Itoa
import Derived.Lib.ItoaNum
import Derived.Lib.LaidTab
import Derived.Lib.SmallJoins
import Derived.Test.YteiafijbgjgiaaaGreatDoorS06
namespace Go.Proofs.YteiafijbgjgiaaaGreatDoor.A
set_option maxHeartbeats 8000000
set_option maxRecDepth 100000
open Go.RowKit Go.Proofs.YteiafijbgjgiaaaGreatDoorW.PrintWords Go.Proofs.YteiafijbgjgiaaaGreatDoorW.PrintLast Go.Proofs.YteiafijbgjgiaaaGreatDoorW.PrintMore
attribute [local go_sem] max2_int min2_int max_two min_two max_three min_three max_four min_four
set_option linter.unusedVariables false
set_option linter.unusedSimpArgs false
section
def errW:Option Int→Value
  |none=> .nilIface
  |some c=> .iface 0 (.int .i64 c)
theorem errW_none:errW none= .nilIface:=rfl
theorem errW_some (c:Int):errW (some c)= .iface 0 (.int .i64 c):=rfl
theorem goesV_ {P:Program} {ops:Array Oper} {Q:Exit→Act→World→Prop} {oi:Oper} {N:Option Tmp} {a:Act} {w:World} {K:Act→World→Prop} {f:FuncId} {fn:Func} {av:Array Operand} {ts:Array TypeId} (t:Tmp) (hf:P.funcs[f]?=some fn) (hname:(fn.name== "runtime.NumGoroutine")=false) (hb:fn.body.isSome=true) (args:Array Value)
    (hw:Region.wanted oi (yielded ops a.tmps)=true) (hN:oi.dst=N) (hop:oi.op= .call {callee:= .value (.tmp t),args:=av,argTypes:=ts }) (ht:a.tmps[t]?=some (.func (.func f) #[] #[])) (hargs:av.map a.eval=args)
    (h:Calls P f args w fun e w'=>∃ v,e= .returned v∧K (a.put N v) w'):if Region.wanted oi (yielded ops a.tmps)=true then Oper.wp P oi a w K Q else K (a.put N undef) w:=by
  refine call_ f args hw hN ?_ h;have he:=enters_ hf hname hb args w;unfold execOp
  simp[hop,resolve,Deferred.ofValue,invoke,Act.eval,hargs,he,ht]
section
variable {P:Program} {d n i:Nat} {e:TypeId} {xs ys:Array Value} {is:List Nat} {a b:Value} {r s:Bool} {w:World}
end
section
variable {P:Program} {ops:Array Oper} {rest:List Oper} {o:Oper} {a:Act} {Q:Exit→Act→World→Prop} {Kc:Act→World→Prop}
end
theorem cut_full {P:Program} (t e:TypeId) {i:TypeInfo} (ht:P.underlying t=some (.slice e)) (hi:P.info? e=some i) (A:Option Addr) (n c:Nat) (hc:n≤c):
    ∀ W:World,(Instr.slice t (.slice A n c) none (some (.int .i64 (n:Int))) (some (.int .i64 (n:Int)))).run P W= .ok (.slice A n n) W:=by
  intro W;have hel:P.elem t=e:=by simp[Program.elem,ht]
  have ha:(A.map fun x=>x.add 0)=A:=by cases A<;>simp[Addr.add]
  simp[Instr.slice,run_underlying ht,Instr.sliceBounds,run_sliceBound,sliced,hel,sizeOf,typeInfo,hi,Result.andThen,ha,hc]
theorem full_rows_run {P:Program} {k:IntKind} {W:World} {A B:Option Addr} {n m c:Nat} {xs ys:List Int} (t ty e:TypeId) (z:Value) (bytes:Nat)
    (ht:P.underlying t=some (.slice e)) (hinfo:(P.info? e).map (fun i=>(i.zero,i.size,i.bytes))=some (some z,1,bytes)) (hz:z.cells.size=1) (hb0:0<bytes)
    (HR:Kd.C (Kd.int k) W A n xs) (HR2:Kd.C (Kd.int k) W B m ys) (hy:ys≠ []) (hl:(xs.length+ys.length)*bytes≤140737488355328):
    ∃ v1 w1,(Builtin.append_ #[t,t] ty #[.slice A n n,.slice B m c]).run P W= .ok v1 w1∧w1.ownsRow W.heap.size e 1 v1 (xs++ys).length (encs (Value.int k) (xs++ys))∧W.grownBy w1 none:=by
  obtain ⟨i0,hi,hzz⟩:=Option.map_eq_some_iff.1 hinfo;simp only[Prod.mk.injEq]at hzz;obtain⟨hz0,hz1,hz2⟩:=hzz;have hn:xs.length=n:=HR.1;have hm:ys.length=m:=HR2.1;have hyl:0<ys.length:=List.length_pos_iff.2 hy;have hlen:xs.length+ys.length≤140737488355328:=Nat.le_trans (Nat.le_mul_of_pos_right _ hb0) hl;have flat:∀ {C:Option Addr} {q:Nat} {zs:List Int},Kd.C (Kd.int k) W C q zs→0<q→∃ ad,C=some ad∧∀ j u,(encs (Value.int k) zs)[j]?=some u→W.cell? (ad.add j)=some u:=by
    intro C q zs h hq;obtain⟨ad,rfl,_⟩:=h.2.2 hq;obtain⟨olds,hnr,hnc⟩:=ReadsRow.inner_ h;have ho:olds=encs (Value.int k) zs:=by
      apply List.ext_getElem?
      intro j
      by_cases hj:j<zs.length
      · have:=hnr.2 j _ (List.getElem?_eq_getElem hj);have h1:(olds.drop (j*1)).take 1=[Value.int k zs[j]]:=this;have h2:olds[j]?=some (Value.int k zs[j]):=by
          have h3:=congrArg (fun l=>l[0]?) h1
          simpa [List.getElem?_take,List.getElem?_drop]using h3
        rw[h2]
        simp[encs,List.getElem?_eq_getElem hj]
      · have hol:olds.length=zs.length:=by have h_:=hnr.1;rw[h_];exact Nat.mul_one _
        rw[List.getElem?_eq_none (by omega),List.getElem?_eq_none (by simp[encs];omega)]
    exact⟨ad,rfl,fun j u hj=>hnc j u (by rw[ho];exact hj)⟩
  obtain⟨bd,rfl,hnew⟩:=flat HR2 (by omega);have hone:∀ u∈encs (Value.int k) ys,u.oneCell'=true:=by
    intro u hu;obtain⟨x,_,rfl⟩:=List.mem_map.1 hu
    rfl
  rcases Nat.eq_zero_or_pos n with h0|hp
  · obtain rfl:xs=[]:=List.eq_nil_of_length_eq_zero (by omega);subst h0
    rcases A with _|ad
    · obtain⟨v',w',hrun,hown,hg,_⟩:=run_append_own (P:=P) W W.heap.size t ty e i0 z 1 bytes ht hi hz0 hz1 hz2 hz (by decide) (.slice none 0 0) 0 [] ⟨rfl,.inl ⟨rfl,rfl⟩⟩ bd m c (encs (Value.int k) ys) (by simp[encs,hm]) hnew hone (by simp only[maxLen];simp at hlen;omega) (by simpa [hm]using hl) (Nat.le_refl _);exact⟨v',w',hrun,by simpa [encs,hm]using hown,hg⟩
    · obtain⟨v',w',hrun,hown,hg⟩:=run_append_arg_grows (P:=P) W t ty e i0 z 1 bytes ht hi hz0 hz1 hz2 hz (by decide) ad 0 0 [] rfl (fun j u hj=>by simp at hj) bd m c (encs (Value.int k) ys) (by simp[encs,hm]) hnew (by omega) (by simp only[maxLen];simp at hlen;omega) (by simpa [hm]using hl);exact⟨v',w',hrun,by simpa [encs,hm]using hown,hg⟩
  · obtain⟨ad,rfl,hold⟩:=flat HR hp;obtain⟨v',w',hrun,hown,hg⟩:=run_append_arg_grows (P:=P) W t ty e i0 z 1 bytes ht hi hz0 hz1 hz2 hz (by decide) ad n n (encs (Value.int k) xs) (by simp[encs,hn]) hold bd m c (encs (Value.int k) ys) (by simp[encs,hm]) hnew (by omega) (by simp only[maxLen];omega) (by rw[← hn, ←hm];exact hl);exact⟨v',w',hrun,by simpa [encs,hn,hm]using hown,hg⟩
theorem full_rows_row {k:IntKind} {W w0:World} {base:Nat} {ok:Nat→Prop} {xs:List Int} {e:TypeId} {v1:Value} {w1:World} (hx:xs≠ []) (hfresh:∀ k,W.heap.size≤k→ok k) (HB:Below base w0 W) (hbase:base≤W.heap.size)
    (hown:w1.ownsRow W.heap.size e 1 v1 xs.length (encs (Value.int k) xs)) (hg:W.grownBy w1 none):
    Kd.R (Kd.int k) e w1 base ok v1 xs∧Below base w0 w1∧W.grownBy w1 (Value.slice none 0 0).ownBlock∧(v1.ownBlock=(Value.slice none 0 0).ownBlock∨∃ b,v1.ownBlock=some b∧W.heap.size≤b):=by
  have hb:∃ b,v1.ownBlock=some b∧W.heap.size≤b:=by
    rcases hown.2 with ⟨_,h0⟩|⟨g,cap,cur,rfl,hb,_⟩
    · exact absurd (List.eq_nil_of_length_eq_zero h0) hx
    · exact⟨g,rfl,hb⟩
  refine⟨Kd.R_of_own (enc:=Value.int k) (own_weaken hown hbase) (fun j hj=>?_),HB.grown hg hbase (fun j hj=>by cases hj),hg,.inr hb⟩;obtain⟨b,h1,h2⟩:=hb;rw[h1]at hj
  injection hj with hj
  exact hfresh j (by omega)
section
variable {P:Program} {ops:Array Oper} {rest:List Oper} {o:Oper} {a:Act} {Q:Exit→Act→World→Prop} {Kc:Act→World→Prop}
theorem Kd.R_append_full_rows_step (k:IntKind) {w0 W:World} (base:Nat) (hw:Region.wanted o (yielded ops a.tmps)=true) (s x:Operand) (t e:TypeId) (z:Value) (bytes:Nat)
    (ho:o.op= .call {callee:= .builtin .append,args:= #[s,x],argTypes:= #[t,t] })
    (ht:P.underlying t=some (.slice e)) (hinfo:(P.info? e).map (fun i=>(i.zero,i.size,i.bytes))=some (some z,1,bytes)) (hz:z.cells.size=1) (hb0:0<bytes)
    (A:Option Addr) (n:Nat) (xs ys:List Int) (vx:Value) (ok:Nat→Prop) {okx:Nat→Prop} {bx:Nat} (hs:a.eval s= .slice A n n) (hx:a.eval x=vx)
    (HR:Kd.C (Kd.int k) W A n xs) (HOx:Kd.R (Kd.int k) e W bx okx vx ys) (hy:ys≠ []) (hfresh:∀ k,W.heap.size≤k→ok k) (HB:Below base w0 W) (hbase:base≤W.heap.size) (hl:(xs.length+ys.length)*bytes≤140737488355328)
    (h:∀ v1 w1,Kd.R (Kd.int k) e w1 base ok v1 (xs++ys)→Below base w0 w1→W.grownBy w1 (Value.slice none 0 0).ownBlock→(v1.ownBlock=(Value.slice none 0 0).ownBlock∨∃ b,v1.ownBlock=some b∧W.heap.size≤b)→Kc (a.put o.dst v1) w1):
    if Region.wanted o (yielded ops a.tmps)=true then Oper.wp P o a W Kc Q else Kc (a.put o.dst undef) W:=by
  obtain⟨B,c,rfl,hc,HR2⟩:=Kd.R_reads HOx;obtain⟨v1,w1,hr1,hown,hg⟩:=full_rows_run (c:=c) t o.type e z bytes ht hinfo hz hb0 HR HR2 hy hl;obtain⟨h1,h2,h3,h4⟩:=full_rows_row (ok:=ok) (by simp[hy]) hfresh HB hbase hown hg;rw[if_pos hw];unfold Oper.wp execOp;simp only[ho,resolve,invoke,builtin,Sem.run_bind,Sem.run_pure,Result.andThen_ok,List.map_toArray,List.map_cons,List.map_nil,hs,hx,hr1];exact h v1 w1 h1 h2 h3 h4
end
def ins (x:Int):List Int→List Int
  | []=> [x]
  |y::t=>if x≤y then x::y::t else y::ins x t
def isort:List Int→List Int
  | []=> []
  |x::r=>ins x (isort r)
theorem ins_perm (x:Int):∀ l:List Int,(ins x l).Perm (x::l)
  | []=>List.Perm.refl _
  | y::t=>by
    unfold ins
    split
    · exact List.Perm.refl _
    · exact((ins_perm x t).cons y).trans (List.Perm.swap x y t)
theorem isort_perm:∀ l:List Int,(isort l).Perm l
  | []=>List.Perm.refl _
  |x::r=>(ins_perm x (isort r)).trans ((isort_perm r).cons x)
theorem ins_sorted (x:Int):∀ l:List Int,l.Pairwise (fun a b=>a≤b)→(ins x l).Pairwise (fun a b=>a≤b)
  | [],_=>List.pairwise_singleton _ _
  | y ::t,h=>by
    unfold ins;obtain⟨h1,h2⟩:=List.pairwise_cons.1 h
    split
    · rename_i hxy
      refine List.pairwise_cons.2 ⟨fun z hz=>?_,h⟩
      rcases List.mem_cons.1 hz with rfl|hz
      · exact hxy
      · exact Int.le_trans hxy (h1 z hz)
    · rename_i hxy
      refine List.pairwise_cons.2 ⟨fun z hz=>?_,ins_sorted x t h2⟩
      rcases List.mem_cons.1 ((ins_perm x t).mem_iff.1 hz)with rfl|hz
      · omega
      · exact h1 z hz
theorem isort_sorted:∀ l:List Int,(isort l).Pairwise (fun a b=>a≤b)
  | []=>List.Pairwise.nil
  |x::r=>ins_sorted x _ (isort_sorted r)
theorem isort_eq (l:List Int):isort l=l.mergeSort fun x y=>decide (x≤y):=by
  refine List.Perm.eq_of_pairwise (le:=fun a b=>a≤b) (fun a b _ _ h1 h2=>by omega) (isort_sorted l) ?_ ((isort_perm l).trans (List.mergeSort_perm _ _).symm);exact(List.pairwise_mergeSort (le:=fun x y:Int=>decide (x≤y)) (fun a b c h1 h2=>by simp only[decide_eq_true_eq]at *;omega) (fun a b=>by simp only[Bool.or_eq_true,decide_eq_true_eq];omega) l).imp (fun h=>of_decide_eq_true h)
def EstG (w:World):Prop:=Lib.TabIs Tryz.prog w "internal/strconv.uint64pow10" .u64 Lib.pow10Tab∧(∃ tp p,w.var? Tryz.prog "strconv.ErrSyntax" =some #[.iface tp p])∧∃ tp p,w.var? Tryz.prog "strconv.ErrRange" =some #[.iface tp p]
theorem EstG.below {w w':World} (h:EstG w) (hb:Below w.heap.size w w'):EstG w':=by
  obtain⟨h1,⟨t2,p2,h2⟩,t3,p3,h3⟩:=h;refine⟨Go.Joins.var_stays (g:=5) (by kernel_rfl) h1 hb (Nat.le_refl _),⟨t2,p2,?_⟩,t3,p3,?_⟩
  · exact Go.Joins.var_stays (g:=1) (by kernel_rfl) h2 hb (Nat.le_refl _)
  · exact Go.Joins.var_stays (g:=2) (by kernel_rfl) h3 hb (Nat.le_refl _)
def cutB (c:UInt8):List UInt8→List (List UInt8)
  | []=> [[]]
  |b::r=>if b=c then []::cutB c r else(b::(cutB c r).headD [])::(cutB c r).tail
theorem cutB_ne (c:UInt8) (l:List UInt8):cutB c l≠ []:=by
  cases l with
  |nil=>simp[cutB]
  |cons b r=>unfold cutB;split<;>simp
theorem cutB_len (c:UInt8):∀ l:List UInt8,(cutB c l).length≤l.length+1
  | []=>by simp[cutB]
  | b ::r=>by
    have:=cutB_len c r;unfold cutB
    split
    · simp;omega
    · simp only[List.length_cons,List.length_tail];have h:=List.length_pos_iff.mpr (cutB_ne c r)
      omega
theorem cutB_none (c:UInt8):∀ l:List UInt8,Lib.indexByte l c<0→cutB c l=[l]
  | [],_=>rfl
  | b ::r,h=>by
    unfold Lib.indexByte at h
    by_cases e:b=c
    · subst e;simp at h
    · have hb:(b==c)=false:=beq_eq_false_iff_ne.mpr e;rw[hb]at h;simp only[Bool.false_eq_true,if_false]at h;have hr:Lib.indexByte r c<0:=by
        by_cases e2:Lib.indexByte r c= -1
        · omega
        · rw[if_neg (by simpa using e2)]at h;omega
      unfold cutB;rw[if_neg e,cutB_none c r hr];rfl
theorem cutB_some (c:UInt8):∀ l:List UInt8,0≤Lib.indexByte l c→(Lib.indexByte l c).toNat<l.length∧cutB c l=l.take (Lib.indexByte l c).toNat::cutB c (l.drop ((Lib.indexByte l c).toNat+1))
  | [],h=>by simp[Lib.indexByte]at h
  | b ::r,h=>by
    unfold Lib.indexByte at h ⊢
    by_cases e:b=c
    · subst e
      simp[cutB]
    · have hb:(b==c)=false:=beq_eq_false_iff_ne.mpr e;rw[hb]at h ⊢;simp only[Bool.false_eq_true,if_false]at h ⊢
      by_cases e2:Lib.indexByte r c= -1
      · rw[if_pos (by simpa using e2)]at h;omega
      · rw[if_neg (by simpa using e2)]at h ⊢;have hge:=Lib.indexByte_ge r c;obtain⟨h1,h2⟩:=cutB_some c r (by omega);rw[show (Lib.indexByte r c+1).toNat=(Lib.indexByte r c).toNat+1 by omega];refine⟨by simp;omega,?_⟩;rw[show cutB c (b::r)=(b::(cutB c r).headD [])::(cutB c r).tail by rw[cutB,if_neg e],h2]
        simp
def isA_:TypeDesc→Bool
  | .struct _=>true
  | .array _ _=>true
  |_=>false
theorem results_11 {P:Program} {fn:Func} {p p':Tmp} {ty ty':TypeId} (h:fn.results= #[.cell p ty,.cell p' ty']) (tmps:Array Value) (w:World) (g g':Nat) (t t':TypeId) (cs cs':Array Value) (fr fr':Nat×Nat) (d d':TypeDesc)
    (hp:tmps.getD p undef= .pointer (some ⟨g,0,none⟩)) (hg:w.heap[g]?=some (.cells cs t fr))
    (hu:P.underlying ty=some d) (hd:isA_ d=false) (hi:(P.info? ty).map (·.size)=some cs.size)
    (hp':tmps.getD p' undef= .pointer (some ⟨g',0,none⟩)) (hg':w.heap[g']?=some (.cells cs' t' fr'))
    (hu':P.underlying ty'=some d') (hd':isA_ d'=false) (hi':(P.info? ty').map (·.size)=some cs'.size)
    (h0:0<cs.size:=by exact Nat.succ_pos _) (h0':0<cs'.size:=by exact Nat.succ_pos _):
    (results fn tmps).run P w= .ok (.tuple #[cs.getD 0 undef,cs'.getD 0 undef]) w:=by
  have one:∀ (g:Nat) (cs:Array Value) (t ty:TypeId) (fr:Nat×Nat) (d:TypeDesc),w.heap[g]?=some (.cells cs t fr)→P.underlying ty=some d→isA_ d=false→0<cs.size→(loadVar ty ⟨g,0,none⟩).run P w= .ok (cs.getD 0 undef) w:=by
    intro g cs t ty fr d hg hu hd h0;have hagg:(isAgg ty).run P w= .ok false w:=by
      unfold isAgg;rw[Sem.run_bind,run_underlying hu w]
      cases d<;>simp_all [isA_]
    have hc:w.cell? ⟨g,0,none⟩=some (cs.getD 0 undef):=by
      simp[World.cell?,hg,h0]
    unfold loadVar;rw[Sem.run_bind,hagg];simp only[Result.andThen_ok,Bool.false_eq_true,if_false];rw[run_load,hc]
  have h1:tmps[p]?.getD undef= .pointer (some ⟨g,0,none⟩):=by simpa using hp
  have h2:tmps[p']?.getD undef= .pointer (some ⟨g',0,none⟩):=by simpa using hp'
  simp[results,h,h1,h2,asAddr,one g cs t ty fr d hg hu hd h0,one g' cs' t' ty' fr' d' hg' hu' hd' h0']
theorem cutB_mem (c:UInt8):∀ (l b:List UInt8),b∈cutB c l→b.length≤l.length
  | [],b,h=>by simp[cutB]at h;subst h;simp
  | x ::r,b,h=>by
    have hne:=cutB_ne c r;have ih:=cutB_mem c r;unfold cutB at h
    split at h
    · rcases List.mem_cons.mp h with rfl|h
      · simp
      · have:=ih b h;simp;omega
    · cases e:cutB c r with
      |nil=>exact absurd e hne
      | cons y s=>
        rw[e]at h ih
        rcases List.mem_cons.mp h with rfl|h
        · have:=ih y List.mem_cons_self;simp;omega
        · have:=ih b (List.mem_cons_of_mem _ h);simp;omega
theorem toList_loop_ne (a:ByteArray):∀ (n i:Nat) (r:List UInt8),a.size-i≤n→r≠ []→ByteArray.toList.loop a i r≠ []
  | 0,i,r,h,hr=>by
    unfold ByteArray.toList.loop;rw[if_neg (by omega)]
    simpa using hr
  | n+1,i,r,h,hr=>by
    unfold ByteArray.toList.loop
    split
    · exact toList_loop_ne a n (i+1) _ (by omega) (by simp)
    · simpa using hr
theorem toList_some (a:ByteArray) (h:a.size≠0):a.toList.isEmpty=false:=by
  have:a.toList≠ []:=by
    unfold ByteArray.toList;unfold ByteArray.toList.loop;rw[if_pos (by omega)];exact toList_loop_ne a a.size 1 _ (by omega) (by simp)
  cases e:a.toList with
  |nil=>exact absurd e this
  |cons x r=>rfl
theorem info3:(Tryz.prog.info? 3).map (fun i=>(i.zero,i.size,i.bytes))=some (some (.int .i64 0),1,8):=by kernel_rfl
theorem info9:(Tryz.prog.info? 9).map (fun i=>(i.zero,i.size,i.bytes))=some (some (.string ⟨#[]⟩),1,16):=by kernel_rfl
theorem info60:(Tryz.prog.info? 60).map (fun i=>(i.zero,i.size,i.bytes))=some (some (.agg #[(.int .i64 0),(.int .i64 0)]),2,16):=by kernel_rfl
theorem info64:(Tryz.prog.info? 64).map (fun i=>(i.zero,i.size,i.bytes))=some (some (.agg #[(.int .i64 0),(.int .i64 0),(.int .i64 0)]),3,24):=by kernel_rfl
theorem info85:(Tryz.prog.info? 85).map (fun i=>(i.zero,i.size,i.bytes))=some (some (.agg #[(.int .i64 0),(.slice none 0 0)]),2,32):=by kernel_rfl
structure S60 where
  f0:Int
  f1:Int
def z60:S60:=⟨(0:Int),(0:Int)⟩
def k60:Kd S60:=Kd.iso (Kd.pair (Kd.int .i64) (Kd.int .i64)) (fun x:S60=>(x.f0,x.f1))
theorem k60_open {w:World} {x:S60} {cs:List Value} (h:k60.K w x cs):cs=[.int .i64 x.f0,.int .i64 x.f1]:=by
  obtain⟨_,_,rfl,rfl,rfl⟩:=h;exact rfl
theorem k60_mkM (w:World) (base:Nat) (ok:Nat→Prop) (x:S60)  :k60.M w base ok x [.int .i64 x.f0,.int .i64 x.f1]:=⟨[.int .i64 x.f0],[.int .i64 x.f1],rfl,rfl,rfl⟩
def rd_T60 (xs:List S60) (i:Int):S60:=xs.getD i.toNat z60
theorem at_T60 {w:World} {A:Option Addr} {n:Nat} {xs:List S60} (h:Kd.C k60 w A n xs) (i:Int) (h0:0≤i) (h1:i<n):∃ ad,A=some ad∧w.cell? (ad.add (i.toNat*2))=some (.int .i64 (rd_T60 xs i).f0)∧w.cell? ⟨(ad.add (i.toNat*2)).block,(ad.add (i.toNat*2)).off+1,none⟩=some (.int .i64 (rd_T60 xs i).f1):=by
  obtain⟨ad,c,e,_,hK,hc0⟩:=Kd.C_get h z60 i h0 h1;have hc:∀ j u,c[j]?=some u→w.cell? (ad.add (i.toNat*2+j))=some u:=hc0;obtain rfl:=k60_open hK;exact⟨ad,e,hc 0 _ rfl,by rw[← add_field _ _ 1 (by omega)];exact hc 1 _ rfl⟩
structure S85 where
  f0:Int
  f1:(List Int)
def z85:S85:=⟨(0:Int),([]:List Int)⟩
def k85:Kd S85:=Kd.iso (Kd.pair (Kd.int .i64) (Kd.slice 3 (Kd.int .i64))) (fun x:S85=>(x.f0,x.f1))
theorem k85_open {w:World} {x:S85} {cs:List Value} (h:k85.K w x cs):∃ A1 c1,cs=[.int .i64 x.f0,.slice A1 x.f1.length c1]∧x.f1.length≤c1∧(Kd.int .i64).C w A1 x.f1.length x.f1:=by
  obtain⟨_,_,rfl,rfl,⟨A1,c1,rfl,l1,g1⟩⟩:=h;exact⟨A1,c1,rfl,l1,g1⟩
theorem k85_mk (w:World) (x:S85) {A1:Option Addr} {c1:Nat} (l1:x.f1.length≤c1) (g1:(Kd.int .i64).C w A1 x.f1.length x.f1):k85.K w x [.int .i64 x.f0,.slice A1 x.f1.length c1]:=⟨[.int .i64 x.f0],[.slice A1 x.f1.length c1],rfl,rfl,⟨A1,c1,rfl,l1,g1⟩⟩
theorem k85_openF {W:World} {ok:Nat→Prop} {x:S85} {cs:List Value} (h:Kd.FK k85 W ok x cs):∃ A1 c1,cs=[.int .i64 x.f0,.slice A1 x.f1.length c1]∧x.f1.length≤c1∧Kd.F (Kd.int .i64) W ok A1 x.f1.length x.f1:=by
  obtain⟨A1,c1,rfl,l1,_⟩:=k85_open (Kd.FK_now h);exact⟨A1,c1,rfl,l1,(fun W' hW=>by obtain⟨A1_,c1_,he,l1_,g1_⟩:=k85_open (h W' hW);injection (Option.some.inj (show some (Value.slice A1 x.f1.length c1)=some (Value.slice A1_ x.f1.length c1_)from congrArg (fun l=>l[1]?) he))with ha_ _ _;rw[ha_];exact g1_)⟩
theorem k85_mkF (W:World) (ok:Nat→Prop) (x:S85) {A1:Option Addr} {c1:Nat} (l1:x.f1.length≤c1) (g1:Kd.F (Kd.int .i64) W ok A1 x.f1.length x.f1):Kd.FK k85 W ok x [.int .i64 x.f0,.slice A1 x.f1.length c1]:=fun W2 hW=>k85_mk W2 x l1 (g1 W2 hW)
def rd_T85 (xs:List S85) (i:Int):S85:=xs.getD i.toNat z85
theorem at_T85 {w:World} {A:Option Addr} {n:Nat} {xs:List S85} (h:Kd.C k85 w A n xs) (i:Int) (h0:0≤i) (h1:i<n):∃ ad A1 c1,A=some ad∧w.cell? (ad.add (i.toNat*2))=some (.int .i64 (rd_T85 xs i).f0)∧w.cell? ⟨(ad.add (i.toNat*2)).block,(ad.add (i.toNat*2)).off+1,none⟩=some (.slice A1 (rd_T85 xs i).f1.length c1)∧(rd_T85 xs i).f1.length≤c1∧(Kd.int .i64).C w A1 (rd_T85 xs i).f1.length (rd_T85 xs i).f1:=by
  obtain⟨ad,c,e,_,hK,hc0⟩:=Kd.C_get h z85 i h0 h1;have hc:∀ j u,c[j]?=some u→w.cell? (ad.add (i.toNat*2+j))=some u:=hc0;obtain⟨A1,c1,rfl,l1,g1⟩:=k85_open hK;exact⟨ad,A1,c1,e,hc 0 _ rfl,by rw[← add_field _ _ 1 (by omega)];exact hc 1 _ rfl,l1,g1⟩
structure S64 where
  f0:Int
  f1:Int
  f2:Int
def z64:S64:=⟨(0:Int),(0:Int),(0:Int)⟩
def k64:Kd S64:=Kd.iso (Kd.pair (Kd.int .i64) (Kd.pair (Kd.int .i64) (Kd.int .i64))) (fun x:S64=>(x.f0,x.f1,x.f2))
theorem k64_open {w:World} {x:S64} {cs:List Value} (h:k64.K w x cs):cs=[.int .i64 x.f0,.int .i64 x.f1,.int .i64 x.f2]:=by
  obtain⟨_,_,rfl,rfl,⟨_,_,rfl,rfl,rfl⟩⟩:=h;exact rfl
theorem k64_openM {w:World} {base:Nat} {ok:Nat→Prop} {x:S64} {cs:List Value} (h:k64.M w base ok x cs):cs=[.int .i64 x.f0,.int .i64 x.f1,.int .i64 x.f2]:=by
  obtain⟨_,_,rfl,rfl,⟨_,_,rfl,rfl,rfl⟩⟩:=h;exact rfl
theorem k64_mkM (w:World) (base:Nat) (ok:Nat→Prop) (x:S64)  :k64.M w base ok x [.int .i64 x.f0,.int .i64 x.f1,.int .i64 x.f2]:=⟨[.int .i64 x.f0],[.int .i64 x.f1,.int .i64 x.f2],rfl,rfl,⟨[.int .i64 x.f1],[.int .i64 x.f2],rfl,rfl,rfl⟩⟩
def rd_T64 (xs:List S64) (i:Int):S64:=xs.getD i.toNat z64
theorem at_T64 {w:World} {A:Option Addr} {n:Nat} {xs:List S64} (h:Kd.C k64 w A n xs) (i:Int) (h0:0≤i) (h1:i<n):∃ ad,A=some ad∧w.cell? (ad.add (i.toNat*3))=some (.int .i64 (rd_T64 xs i).f0)∧w.cell? ⟨(ad.add (i.toNat*3)).block,(ad.add (i.toNat*3)).off+1,none⟩=some (.int .i64 (rd_T64 xs i).f1)∧w.cell? ⟨(ad.add (i.toNat*3)).block,(ad.add (i.toNat*3)).off+2,none⟩=some (.int .i64 (rd_T64 xs i).f2):=by
  obtain⟨ad,c,e,_,hK,hc0⟩:=Kd.C_get h z64 i h0 h1;have hc:∀ j u,c[j]?=some u→w.cell? (ad.add (i.toNat*3+j))=some u:=hc0;obtain rfl:=k64_open hK;exact⟨ad,e,hc 0 _ rfl,by rw[← add_field _ _ 1 (by omega)];exact hc 1 _ rfl,by rw[← add_field _ _ 2 (by omega)];exact hc 2 _ rfl⟩
structure S101 where
  f0:Int
  f1:Int
  f2:Int
def z101:S101:=⟨(0:Int),(0:Int),(0:Int)⟩
def k101:Kd S101:=Kd.iso (Kd.pair (Kd.int .i64) (Kd.pair (Kd.int .i64) (Kd.int .i64))) (fun x:S101=>(x.f0,x.f1,x.f2))
theorem k101_heap:Kd.Heap k101:=Kd.heap_iso _ (Kd.heap_pair (Kd.heap_int .i64) (Kd.heap_pair (Kd.heap_int .i64) (Kd.heap_int .i64)))
theorem k101_open {w:World} {x:S101} {cs:List Value} (h:k101.K w x cs):cs=[.int .i64 x.f0,.int .i64 x.f1,.int .i64 x.f2]:=by
  obtain⟨_,_,rfl,rfl,⟨_,_,rfl,rfl,rfl⟩⟩:=h;exact rfl
theorem k101_mkM (w:World) (base:Nat) (ok:Nat→Prop) (x:S101)  :k101.M w base ok x [.int .i64 x.f0,.int .i64 x.f1,.int .i64 x.f2]:=⟨[.int .i64 x.f0],[.int .i64 x.f1,.int .i64 x.f2],rfl,rfl,⟨[.int .i64 x.f1],[.int .i64 x.f2],rfl,rfl,rfl⟩⟩
def rd_T101 (xs:List S101) (i:Int):S101:=xs.getD i.toNat z101
theorem at_T101 {w:World} {A:Option Addr} {n:Nat} {xs:List S101} (h:Kd.C k101 w A n xs) (i:Int) (h0:0≤i) (h1:i<n):∃ ad,A=some ad∧w.cell? (ad.add (i.toNat*3))=some (.int .i64 (rd_T101 xs i).f0)∧w.cell? ⟨(ad.add (i.toNat*3)).block,(ad.add (i.toNat*3)).off+1,none⟩=some (.int .i64 (rd_T101 xs i).f1)∧w.cell? ⟨(ad.add (i.toNat*3)).block,(ad.add (i.toNat*3)).off+2,none⟩=some (.int .i64 (rd_T101 xs i).f2):=by
  obtain⟨ad,c,e,_,hK,hc0⟩:=Kd.C_get h z101 i h0 h1;have hc:∀ j u,c[j]?=some u→w.cell? (ad.add (i.toNat*3+j))=some u:=hc0;obtain rfl:=k101_open hK;exact⟨ad,e,hc 0 _ rfl,by rw[← add_field _ _ 1 (by omega)];exact hc 1 _ rfl,by rw[← add_field _ _ 2 (by omega)];exact hc 2 _ rfl⟩
end
section
def Bs_Ints.l0:Nat→List Int→List Int→Int→Option (Bool)
 |0,_,_,_=>none
 |k+1,x0,x1,x5=>if x5<(x0.length:Int)then(if 0≤x5 then(if x5<(x1.length:Int)then(if(rd x0 x5)=(rd x1 x5)then(Bs_Ints.l0 k x0 x1 (wrap64 (x5+1)))else(some false))else(none))else(none))else(some true)
def Bs_Ints.f (k:Nat) (l0:List Int) (l1:List Int):Option (Bool):=if(l0.length:Int)=(l1.length:Int)then(Bs_Ints.l0 k l0 l1 0)else(some false)
theorem Bs_Ints.mono_l:∀ k,(∀ y0 y1 y2,LeO (Bs_Ints.l0 k y0 y1 y2) (Bs_Ints.l0 (k+1) y0 y1 y2))
 |0=>fun _ _ _ r h=>by simp[Bs_Ints.l0]at h
 | k+1=>by
  have ih0:=Bs_Ints.mono_l k
  ·intro y0 y1 y2;unfold Bs_Ints.l0
   exact lz
theorem Bs_Ints.mono:∀ a0 a1 k,LeO (Bs_Ints.f k a0 a1) (Bs_Ints.f (k+1) a0 a1):=by
 intro a0 a1 k;have ih0:=Bs_Ints.mono_l k;unfold Bs_Ints.f
 exact lz
theorem Bs_Ints.calls (k:Nat) (A0:Option Addr) (c0:Nat) (l0:List Int) (A1:Option Addr) (c1:Nat) (l1:List Int) (r:Bool) (w:World) (hr0:Kd.C (Kd.int .i64) w A0 l0.length l0) (hc0:l0.length≤c0) (hr1:Kd.C (Kd.int .i64) w A1 l1.length l1) (hc1:l1.length≤c1) (H:Bs_Ints.f k l0 l1=some r):
  Calls Tryz.prog 16 #[.slice A0 l0.length c0,.slice A1 l1.length c1] w fun e w'=>e= .returned (.bool r)∧Drawn0 w w':=by
 have HR0:=m0 hr0;have HC0:=m0 hc0;clear hr0 hc0;have HR1:=m0 hr1;have HC1:=m0 hc1;clear hr1 hc1;unfold Bs_Ints.f at H
 by_cases c3:(l0.length:Int)=(l1.length:Int)
 ·rw [if_pos c3]at H;have c3b0:=beq_iff_eq.mpr c3;have c3b1:=bne_eq_false_iff_eq.mpr c3;have c3b2:(l0.length==l1.length)=true:=by first|simpa using c3|(simp at c3 ⊢;omega)
  clear c3;have H':=m0 H;clear H;go_enter Tryz.func16,Tryz.ntmps16
  go_wp2
  repeat(go_quiet (fail);try go_wp2)
  go_loopg [5] k (fun kq v5 w'=>∃ (x5_1:Int),v5= .int .i64 x5_1∧Aside0 (Bs_Ints.l0 kq l0 l1 x5_1=some r)∧Aside0 (kq≤k)∧Drawn0 w w')
  case atStart=>exact⟨(0),rz,H',⟨Nat.le_refl _⟩,dz⟩
  case round=>
   clear H';obtain⟨x5_1,rfl,HA,HK1,⟨m1,rfl⟩⟩:=hrel
   cases gk with
   |zero=>exact absurd HA.out (by simp[Bs_Ints.l0])
   | succ k1=>
    have H:=HA.out;clear HA;simp only[Bs_Ints.l0]at H
    by_cases c4:x5_1<(l0.length:Int)
    ·rw [if_pos c4]at H;have c4b0:=decide_eq_true c4;clear c4
     by_cases c5:0≤x5_1
     ·rw [if_pos c5]at H;have c5b0:=decide_eq_true c5;clear c5
      by_cases c6:x5_1<(l1.length:Int)
      ·rw [if_pos c6]at H;have c6b0:=decide_eq_true c6;clear c6;have p101:0≤(x5_1:Int):=od;have q101:x5_1<(l0.length:Int):=od;obtain⟨ad101,e101,hx101_0⟩:=Kd.at_int HR0.out x5_1 p101 q101
       cases e101
       replace p101:=eq_true p101;replace q101:=eq_true q101;have p102:0≤(x5_1:Int):=od;have q102:x5_1<(l1.length:Int):=od;obtain⟨ad102,e102,hx102_0⟩:=Kd.at_int HR1.out x5_1 p102 q102
       cases e102
       replace p102:=eq_true p102;replace q102:=eq_true q102
       by_cases c7:(rd l0 x5_1)=(rd l1 x5_1)
       ·rw [if_pos c7]at H;have c7b0:=beq_iff_eq.mpr c7;have c7b1:=bne_eq_false_iff_eq.mpr c7;clear c7;have H':=m0 H;clear H
        go_wp2
        repeat(go_quiet (fail);try go_wp2)
        go_roundg k1
        case measure=>have:=HK1.out;omega
        case rel=>exact⟨(wrap64 (x5_1+1)),rz,H',⟨by have:=HK1.out;omega⟩,dz⟩
       ·rw [if_neg c7]at H;have c7b0:=beq_eq_false_iff_ne.mpr c7;have c7b1:=bne_iff_ne.mpr c7;obtain rfl:=Option.some.inj H
        go_wp2
        repeat(go_quiet (fail);try go_wp2)
        go_ret
        exact⟨rz,dz⟩
      ·rw [if_neg c6]at H;exact absurd H (by simp)
     ·rw [if_neg c5]at H;exact absurd H (by simp)
    ·rw [if_neg c4]at H;have c4b0:=decide_eq_false c4;clear c4;obtain rfl:=Option.some.inj H
     go_wp2
     repeat(go_quiet (fail);try go_wp2)
     go_ret
     exact⟨rz,dz⟩
 ·rw [if_neg c3]at H;have c3b0:=beq_eq_false_iff_ne.mpr c3;have c3b1:=bne_iff_ne.mpr c3;have c3b2:(l0.length==l1.length)=false:=by first|simpa using c3|(simp at c3 ⊢;omega)
  obtain rfl:=Option.some.inj H;go_enter Tryz.func16,Tryz.ntmps16
  go_wp2
  repeat(go_quiet (fail);try go_wp2)
  go_ret
  exact⟨rz,dz⟩
end
section
def L_first.l0:Nat→List Int→Int→Int→Option (Int)
 |0,_,_,_=>none
 |k+1,x5,x6,x7=>if x7<x6 then(if 0≤x7 then(if x7<(x5.length:Int)then(if(rd x5 x7)=0 then(L_first.l0 k x5 x6 (wrap64 (x7+1)))else(some (rd x5 x7)))else(none))else(none))else(some 0)
def L_first.f (k:Nat) (l0:List Int):Option (Int):=L_first.l0 k l0 (l0.length:Int) 0
theorem L_first.mono_l:∀ k,(∀ y0 y1 y2,LeO (L_first.l0 k y0 y1 y2) (L_first.l0 (k+1) y0 y1 y2))
 |0=>fun _ _ _ r h=>by simp[L_first.l0]at h
 | k+1=>by
  have ih0:=L_first.mono_l k
  ·intro y0 y1 y2;unfold L_first.l0
   exact lz
theorem L_first.mono:∀ a0 k,LeO (L_first.f k a0) (L_first.f (k+1) a0):=by
 intro a0 k;have ih0:=L_first.mono_l k;unfold L_first.f
 exact lz
theorem L_first.calls (k:Nat) (A0:Option Addr) (c0:Nat) (l0:List Int) (r:Int) (w:World) (hr0:Kd.C (Kd.int .i64) w A0 l0.length l0) (hc0:l0.length≤c0) (H:L_first.f k l0=some r):
  Calls Tryz.prog 40 #[.slice A0 l0.length c0] w fun e w'=>e= .returned (.int .i64 r)∧Drawn0 w w':=by
 have HR0:=m0 hr0;have HC0:=m0 hc0;clear hr0 hc0;unfold L_first.f at H;have H':=m0 H;clear H;go_enter Tryz.func40,Tryz.ntmps40
 go_wp2
 go_loopg [7] k (fun kq v7 w'=>∃ (x7_1:Int),v7= .int .i64 x7_1∧Aside0 (L_first.l0 kq l0 (l0.length:Int) x7_1=some r)∧Aside0 (kq≤k)∧Drawn0 w w')
 case atStart=>exact⟨(0),rz,H',⟨Nat.le_refl _⟩,dz⟩
 case round=>
  clear H';obtain⟨x7_1,rfl,HA,HK1,⟨m1,rfl⟩⟩:=hrel
  cases gk with
  |zero=>exact absurd HA.out (by simp[L_first.l0])
  | succ k1=>
   have H:=HA.out;clear HA;simp only[L_first.l0]at H
   by_cases c2:x7_1<(l0.length:Int)
   ·rw [if_pos c2]at H;have c2b0:=decide_eq_true c2;clear c2
    by_cases c3:0≤x7_1
    ·rw [if_pos c3]at H;have c3b0:=decide_eq_true c3;clear c3
     by_cases c4:x7_1<(l0.length:Int)
     ·rw [if_pos c4]at H;have c4b0:=decide_eq_true c4;clear c4;have p103:0≤(x7_1:Int):=od;have q103:x7_1<(l0.length:Int):=od;obtain⟨ad103,e103,hx103_0⟩:=Kd.at_int HR0.out x7_1 p103 q103
      cases e103
      replace p103:=eq_true p103;replace q103:=eq_true q103
      by_cases c5:(rd l0 x7_1)=0
      ·rw [if_pos c5]at H;have c5b0:=beq_iff_eq.mpr c5;have c5b1:=bne_eq_false_iff_eq.mpr c5;clear c5;have H':=m0 H;clear H
       go_wp2
       go_roundg k1
       case measure=>have:=HK1.out;omega
       case rel=>exact⟨(wrap64 (x7_1+1)),rz,H',⟨by have:=HK1.out;omega⟩,dz⟩
      ·rw [if_neg c5]at H;have c5b0:=beq_eq_false_iff_ne.mpr c5;have c5b1:=bne_iff_ne.mpr c5;obtain rfl:=Option.some.inj H
       go_wp2
       go_ret
       exact⟨rz,dz⟩
     ·rw [if_neg c4]at H;exact absurd H (by simp)
    ·rw [if_neg c3]at H;exact absurd H (by simp)
   ·rw [if_neg c2]at H;have c2b0:=decide_eq_false c2;clear c2;obtain rfl:=Option.some.inj H
    go_wp2
    go_ret
    exact⟨rz,dz⟩
end
section
def L_unless.f (a0:Bool) (a1:Int):Option (Int):=if a0=true then(some 0)else(some a1)
theorem L_unless.calls (a0:Bool) (a1:Int) (r:Int) (w:World) (H:L_unless.f a0 a1=some r):
  Calls Tryz.prog 45 #[.bool a0,.int .i64 a1] w fun e w'=>e= .returned (.int .i64 r)∧Drawn0 w w':=by
 unfold L_unless.f at H
 by_cases c3:a0=true
 ·subst c3;rw[if_pos rfl]at H;obtain rfl:=Option.some.inj H;go_enter Tryz.func45,Tryz.ntmps45
  go_wp2
  go_ret
  exact⟨rz,dz⟩
 ·replace c3:=Bool.eq_false_iff.mpr c3;subst c3;rw[if_neg (show ¬ (false=true) by decide)]at H;obtain rfl:=Option.some.inj H;go_enter Tryz.func45,Tryz.ntmps45
  go_wp2
  go_ret
  exact⟨rz,dz⟩
end
section
def L_within.f (a0:Int) (a1:Int) (a2:Int):Option (Bool):=if a1≤a0 then(some (decide (a0≤a2)))else(some false)
theorem L_within.calls (a0:Int) (a1:Int) (a2:Int) (r:Bool) (w:World) (H:L_within.f a0 a1 a2=some r):
  Calls Tryz.prog 46 #[.int .i64 a0,.int .i64 a1,.int .i64 a2] w fun e w'=>e= .returned (.bool r)∧Drawn0 w w':=by
 unfold L_within.f at H
 by_cases c4:a1≤a0
 ·rw [if_pos c4]at H;have c4b0:=decide_eq_true c4;clear c4;obtain rfl:=Option.some.inj H;go_enter Tryz.func46,Tryz.ntmps46
  go_wp2
  go_ret
  exact⟨rz,dz⟩
 ·rw [if_neg c4]at H;have c4b0:=decide_eq_false c4;clear c4;obtain rfl:=Option.some.inj H;go_enter Tryz.func46,Tryz.ntmps46
  go_wp2
  go_ret
  exact⟨rz,dz⟩
end
section
def L_isSignal.f (a0:Int):Option (Bool):=(L_within.f a0 0 10000).bind fun t104=>(some t104)
theorem L_isSignal.calls (a0:Int) (r:Bool) (w:World) (H:L_isSignal.f a0=some r):
  Calls Tryz.prog 61 #[.int .i64 a0] w fun e w'=>e= .returned (.bool r)∧Drawn0 w w':=by
 unfold L_isSignal.f at H;replace H:=oa H;obtain⟨t104,A2,H⟩:=H;(try dsimp only at H);obtain rfl:=Option.some.inj H;go_enter Tryz.func61,Tryz.ntmps61
 go_wp2_with (first|((with_reducible refine gc 46 rfl ?_);refine gl (some 4) Tryz.func46 #[.int .i64 a0,.int .i64 0,.int .i64 10000] ?_;(with_reducible refine(L_within.calls a0 0 10000 t104 _ A2.out).mono ?_);rintro e w' ⟨rfl,⟨nd,rfl⟩⟩;refine⟨_,rfl,?_⟩))
 go_ret
 exact⟨rz,dz⟩
end
section
def L_CheckProfile_1.f (a0:Int):Option (Int):=(L_isSignal.f a0).bind fun t105=>((L_unless.f t105 2).bind fun t106=>(some t106))
theorem L_CheckProfile_1.calls (a0:Int) (r:Int) (w:World) (H:L_CheckProfile_1.f a0=some r):
  Calls Tryz.prog 60 #[.int .i64 a0] w fun e w'=>e= .returned (.int .i64 r)∧Drawn0 w w':=by
 unfold L_CheckProfile_1.f at H;replace H:=oa H;obtain⟨t105,A2,H⟩:=H;(try dsimp only at H);replace H:=oa H;obtain⟨t106,A3,H⟩:=H;(try dsimp only at H);obtain rfl:=Option.some.inj H;go_enter Tryz.func60,Tryz.ntmps60
 go_wp2_with (first|((with_reducible refine gc 61 rfl ?_);refine gl (some 4) Tryz.func61 #[.int .i64 a0] ?_;(with_reducible refine(L_isSignal.calls a0 t105 _ A2.out).mono ?_);rintro e w' ⟨rfl,⟨nd,rfl⟩⟩;refine⟨_,rfl,?_⟩)|((with_reducible refine gc 45 rfl ?_);refine gl (some 5) Tryz.func45 #[.bool t105,.int .i64 2] ?_;(with_reducible refine(L_unless.calls t105 2 t106 _ A3.out).mono ?_);rintro e w' ⟨rfl,⟨nd,rfl⟩⟩;refine⟨_,rfl,?_⟩))
 go_ret
 exact⟨rz,dz⟩
end
section
def L_each_int_CheckProfile_1.l0:Nat→List Int→Int→Int→Option (Int×Int)
 |0,_,_,_=>none
 |k+1,x9,x10,x11=>if x11<x10 then(if 0≤x11 then(if x11<(x9.length:Int)then((L_CheckProfile_1.f (rd x9 x11)).bind fun t108=>(if t108=0 then(L_each_int_CheckProfile_1.l0 k x9 x10 (wrap64 (x11+1)))else(some (x11,t108))))else(none))else(none))else(some (0,0))
def L_each_int_CheckProfile_1.f (k:Nat) (l0:List Int)  :Option (Int×Int):=L_each_int_CheckProfile_1.l0 k l0 (l0.length:Int) 0
theorem L_each_int_CheckProfile_1.mono_l:∀ k,(∀ y0 y1 y2,LeO (L_each_int_CheckProfile_1.l0 k y0 y1 y2) (L_each_int_CheckProfile_1.l0 (k+1) y0 y1 y2))
 |0=>fun _ _ _ r h=>by simp[L_each_int_CheckProfile_1.l0]at h
 | k+1=>by
  have ih0:=L_each_int_CheckProfile_1.mono_l k
  ·intro y0 y1 y2;unfold L_each_int_CheckProfile_1.l0
   exact lz
theorem L_each_int_CheckProfile_1.mono:∀ a0 k,LeO (L_each_int_CheckProfile_1.f k a0) (L_each_int_CheckProfile_1.f (k+1) a0):=by
 intro a0 k;have ih0:=L_each_int_CheckProfile_1.mono_l k;unfold L_each_int_CheckProfile_1.f
 exact lz
theorem L_each_int_CheckProfile_1.calls (k:Nat) (A0:Option Addr) (c0:Nat) (l0:List Int)  (r1:Int) (r2:Int) (w:World) (hr0:Kd.C (Kd.int .i64) w A0 l0.length l0) (hc0:l0.length≤c0) (H:L_each_int_CheckProfile_1.f k l0=some (r1,r2)):
  Calls Tryz.prog 59 #[.slice A0 l0.length c0,.func (.func 60) #[] #[]] w fun e w'=>e= .returned (.tuple #[.int .i64 r1,.int .i64 r2])∧Drawn0 w w':=by
 have HR0:=m0 hr0;have HC0:=m0 hc0;clear hr0 hc0;unfold L_each_int_CheckProfile_1.f at H;have H':=m0 H;clear H;go_enter Tryz.func59,Tryz.ntmps59
 go_wp2
 go_loopg [11] k (fun kq v11 w'=>∃ (x11_1:Int),v11= .int .i64 x11_1∧Aside0 (L_each_int_CheckProfile_1.l0 kq l0 (l0.length:Int) x11_1=some (r1,r2))∧Aside0 (kq≤k)∧Drawn0 w w')
 case atStart=>exact⟨(0),rz,H',⟨Nat.le_refl _⟩,dz⟩
 case round=>
  clear H';obtain⟨x11_1,rfl,HA,HK1,⟨m1,rfl⟩⟩:=hrel
  cases gk with
  |zero=>exact absurd HA.out (by simp[L_each_int_CheckProfile_1.l0])
  | succ k1=>
   have H:=HA.out;clear HA;simp only[L_each_int_CheckProfile_1.l0]at H
   by_cases c3:x11_1<(l0.length:Int)
   ·rw [if_pos c3]at H;have c3b0:=decide_eq_true c3;clear c3
    by_cases c4:0≤x11_1
    ·rw [if_pos c4]at H;have c4b0:=decide_eq_true c4;clear c4
     by_cases c5:x11_1<(l0.length:Int)
     ·rw [if_pos c5]at H;have c5b0:=decide_eq_true c5;clear c5;replace H:=oa H;obtain⟨t108,A6,H⟩:=H;(try dsimp only at H);have p107:0≤(x11_1:Int):=od;have q107:x11_1<(l0.length:Int):=od;obtain⟨ad107,e107,hx107_0⟩:=Kd.at_int HR0.out x11_1 p107 q107
      cases e107
      replace p107:=eq_true p107;replace q107:=eq_true q107
      by_cases c7:t108=0
      ·rw [if_pos c7]at H;have c7b0:=beq_iff_eq.mpr c7;have c7b1:=bne_eq_false_iff_eq.mpr c7;clear c7;have H':=m0 H;clear H
       go_wp2_with (first|(go_at_call 60;(with_reducible refine(L_CheckProfile_1.calls (rd l0 x11_1) t108 _ A6.out).mono ?_);rintro e w' ⟨rfl,⟨nd,rfl⟩⟩))
       go_roundg k1
       case measure=>have:=HK1.out;omega
       case rel=>exact⟨(wrap64 (x11_1+1)),rz,H',⟨by have:=HK1.out;omega⟩,dz⟩
      ·rw [if_neg c7]at H;have c7b0:=beq_eq_false_iff_ne.mpr c7;have c7b1:=bne_iff_ne.mpr c7;simp only[Option.some.injEq,Prod.mk.injEq]at H;obtain⟨rfl,rfl⟩:=H
       go_wp2_with (first|(go_at_call 60;(with_reducible refine(L_CheckProfile_1.calls (rd l0 x11_1) t108 _ A6.out).mono ?_);rintro e w' ⟨rfl,⟨nd,rfl⟩⟩))
       go_ret2
       exact⟨rz,dz⟩
     ·rw [if_neg c5]at H;exact absurd H (by simp)
    ·rw [if_neg c4]at H;exact absurd H (by simp)
   ·rw [if_neg c3]at H;have c3b0:=decide_eq_false c3;clear c3;simp only[Option.some.injEq,Prod.mk.injEq]at H;obtain⟨rfl,rfl⟩:=H
    go_wp2
    go_ret2
    exact⟨rz,dz⟩
end
section
def L_CheckProfile.f (k:Nat) (l0:List Int):Option (Int×Int):=(L_unless.f (decide ((l0.length:Int)>0)) 10).bind fun t109=>((L_unless.f (decide ((l0.length:Int)≤24)) 8).bind fun t110=>((L_first.f k (([t109,t110]:List Int))).bind fun t114=>(if t114=0 then((L_each_int_CheckProfile_1.f k l0).bind fun bt115=>(some (bt115.1,bt115.2)))else(some (0,t114)))))
theorem L_CheckProfile.mono:∀ a0 k,LeO (L_CheckProfile.f k a0) (L_CheckProfile.f (k+1) a0):=by
 intro a0 k;unfold L_CheckProfile.f
 have m1:=@L_each_int_CheckProfile_1.mono;have m2:=@L_first.mono;exact lz
theorem L_CheckProfile.calls (k:Nat) (A0:Option Addr) (c0:Nat) (l0:List Int) (r1:Int) (r2:Int) (w:World) (hr0:Kd.C (Kd.int .i64) w A0 l0.length l0) (hc0:l0.length≤c0) (H:L_CheckProfile.f k l0=some (r1,r2)):
  Calls Tryz.prog 31 #[.slice A0 l0.length c0] w fun e w'=>e= .returned (.tuple #[.int .i64 r1,.int .i64 r2])∧Below w.heap.size w w':=by
 have HR0:=m0 hr0;have HC0:=m0 hc0;clear hr0 hc0;have HB:=m0 (Below.refl w.heap.size w);unfold L_CheckProfile.f at H;replace H:=oa H;obtain⟨t109,A2,H⟩:=H;(try dsimp only at H);replace H:=oa H;obtain⟨t110,A3,H⟩:=H;(try dsimp only at H);obtain⟨y111,hy111⟩:∃ y_:List Int,y_=(([t109,t110]:List Int)):=⟨_,rfl⟩;replace H:((L_first.f k y111).bind fun t114=>(if t114=0 then((L_each_int_CheckProfile_1.f k l0).bind fun bt115=>(some (bt115.1,bt115.2)))else(some (0,t114))))=some (r1,r2):=hq hy111 H
 have Ny111:=m0 hy111;clear hy111;replace H:=oa H;obtain⟨t114,A4,H⟩:=H;(try dsimp only at H)
 by_cases c5:t114=0
 ·rw [if_pos c5]at H;have c5b0:=beq_iff_eq.mpr c5;have c5b1:=bne_eq_false_iff_eq.mpr c5;clear c5;replace H:=oa H;obtain⟨⟨t115,t116⟩,A6,H⟩:=H;(try dsimp only at H);simp only[Option.some.injEq,Prod.mk.injEq]at H;obtain⟨rfl,rfl⟩:=H;go_enter Tryz.func31,Tryz.ntmps31
  go_wp2_with (first|((with_reducible refine gc 45 rfl ?_);refine goesL_ (some 8) rfl rfl Tryz.func45 (by kernel_rfl) rfl #[.bool (decide ((l0.length:Int)>0)),.int .i64 10] rfl (by(try simp only[List.map_toArray,List.map_cons,List.map_nil]);first|done|rfl|(simp only[List.length_drop,List.length_take];rfl)|(simp;first|done|exact⟨rfl,rfl⟩)) ?_;(with_reducible refine(L_unless.calls (decide ((l0.length:Int)>0)) 10 t109 _ A2.out).mono ?_);rintro e w' ⟨rfl,⟨nd,rfl⟩⟩;refine⟨_,rfl,?_⟩)|((with_reducible refine gc 45 rfl ?_);refine gl (some 12) Tryz.func45 #[.bool (decide ((l0.length:Int)≤24)),.int .i64 8] ?_;(with_reducible refine(L_unless.calls (decide ((l0.length:Int)≤24)) 8 t110 _ A3.out).mono ?_);rintro e w' ⟨rfl,⟨nd,rfl⟩⟩;refine⟨_,rfl,?_⟩)|((with_reducible refine ga 13 rfl ?_);refine Kd.R_lit (Kd.int .i64) _ 30 ?hg (N:=13) ?hd (xs:=([t109,t110]:List Int)) (inner:=[.int .i64 t109,.int .i64 t110]) (ok:=fun _=>True) (okp:=fun _=>True) ?hr ?hp (fun _ hk=>hk) trivial (Below.refl _ _) (Nat.le_refl _) (by simp) ?_;(case hd=>rfl);(case hg=>rfl);(case hr=>first|(go_simp;done)|(go_simp;rfl));(case hp=>exact(Reps.one (ki t109) (Reps.one (ki t110) (Reps.none _ _))));intro v112 w7 ho8 hb hg_ hnew_;clear hg_ hnew_;(first|rw[← Ny111.out]at ho8|(simp only[Int.reduceToNat]at ho8;rw[← Ny111.out]at ho8));have HO113:=m0 (Kd.R_lower ho8 (below_size bz));replace HB:=sb HB hb;clear hb ho8;obtain⟨Ao9,co9,eo9⟩:=Kd.R_slice HO113.out;subst eo9)|((with_reducible refine gc 40 rfl ?_);refine gl (some 14) Tryz.func40 #[.slice Ao9 y111.length co9] ?_;(with_reducible refine(L_first.calls k _ _ y111 t114 _ ?side1 ?side2 A4.out).mono ?_);(case side1=>exact bc (Kd.R_reads' HO113.out).2.2);(case side2=>exact(Kd.R_reads' HO113.out).2.1);rintro e w' ⟨rfl,⟨nd,rfl⟩⟩;refine⟨_,rfl,?_⟩)|((with_reducible refine gc 59 rfl ?_);refine gl (some 19) Tryz.func59 #[.slice A0 l0.length c0,.func (.func 60) #[] #[]] ?_;(with_reducible refine(L_each_int_CheckProfile_1.calls k _ _ l0  t115 t116 _ ?side1 ?side2 A6.out).mono ?_);(case side1=>exact cd (Kd.C_below HR0.out bz));(case side2=>exact HC0.out);rintro e w' ⟨rfl,⟨nd,rfl⟩⟩;refine⟨_,rfl,?_⟩))
  go_ret2
  exact ez
 ·rw [if_neg c5]at H;have c5b0:=beq_eq_false_iff_ne.mpr c5;have c5b1:=bne_iff_ne.mpr c5;simp only[Option.some.injEq,Prod.mk.injEq]at H;obtain⟨rfl,rfl⟩:=H;go_enter Tryz.func31,Tryz.ntmps31
  go_wp2_with (first|((with_reducible refine gc 45 rfl ?_);refine goesL_ (some 8) rfl rfl Tryz.func45 (by kernel_rfl) rfl #[.bool (decide ((l0.length:Int)>0)),.int .i64 10] rfl (by(try simp only[List.map_toArray,List.map_cons,List.map_nil]);first|done|rfl|(simp only[List.length_drop,List.length_take];rfl)|(simp;first|done|exact⟨rfl,rfl⟩)) ?_;(with_reducible refine(L_unless.calls (decide ((l0.length:Int)>0)) 10 t109 _ A2.out).mono ?_);rintro e w' ⟨rfl,⟨nd,rfl⟩⟩;refine⟨_,rfl,?_⟩)|((with_reducible refine gc 45 rfl ?_);refine gl (some 12) Tryz.func45 #[.bool (decide ((l0.length:Int)≤24)),.int .i64 8] ?_;(with_reducible refine(L_unless.calls (decide ((l0.length:Int)≤24)) 8 t110 _ A3.out).mono ?_);rintro e w' ⟨rfl,⟨nd,rfl⟩⟩;refine⟨_,rfl,?_⟩)|((with_reducible refine ga 13 rfl ?_);refine Kd.R_lit (Kd.int .i64) _ 30 ?hg (N:=13) ?hd (xs:=([t109,t110]:List Int)) (inner:=[.int .i64 t109,.int .i64 t110]) (ok:=fun _=>True) (okp:=fun _=>True) ?hr ?hp (fun _ hk=>hk) trivial (Below.refl _ _) (Nat.le_refl _) (by simp) ?_;(case hd=>rfl);(case hg=>rfl);(case hr=>first|(go_simp;done)|(go_simp;rfl));(case hp=>exact(Reps.one (ki t109) (Reps.one (ki t110) (Reps.none _ _))));intro v112 w10 ho11 hb hg_ hnew_;clear hg_ hnew_;(first|rw[← Ny111.out]at ho11|(simp only[Int.reduceToNat]at ho11;rw[← Ny111.out]at ho11));have HO113:=m0 (Kd.R_lower ho11 (below_size bz));replace HB:=sb HB hb;clear hb ho11;obtain⟨Ao12,co12,eo12⟩:=Kd.R_slice HO113.out;subst eo12)|((with_reducible refine gc 40 rfl ?_);refine gl (some 14) Tryz.func40 #[.slice Ao12 y111.length co12] ?_;(with_reducible refine(L_first.calls k _ _ y111 t114 _ ?side1 ?side2 A4.out).mono ?_);(case side1=>exact bc (Kd.R_reads' HO113.out).2.2);(case side2=>exact(Kd.R_reads' HO113.out).2.1);rintro e w' ⟨rfl,⟨nd,rfl⟩⟩;refine⟨_,rfl,?_⟩))
  go_ret2
  exact ez
end
section
def L_open.f (k:Nat) (l0:List Int):Option (List Int×Int):=(L_CheckProfile.f k l0).bind fun bt117=>(some (l0,bt117.2))
theorem L_open.mono:∀ a0 k,LeO (L_open.f k a0) (L_open.f (k+1) a0):=by
 intro a0 k;unfold L_open.f
 have m1:=@L_CheckProfile.mono;exact lz
theorem L_open.calls (k:Nat) (P0_:Nat→Prop) (A0:Option Addr) (c0:Nat) (l0:List Int) (r1:List Int) (r2:Int) (w:World) (hs0:Kd.V (Kd.int .i64) 3 w w.heap.size (fun k_=>P0_ k_) (.slice A0 l0.length c0) l0) (H:L_open.f k l0=some (r1,r2)):
  Calls Tryz.prog 39 #[.slice A0 l0.length c0] w fun e w'=>∃ v0_:Value,e= .returned (.tuple #[v0_,.int .i64 r2])∧Kd.V (Kd.int .i64) 3 w' w.heap.size (fun k_=>(P0_ k_∨w.heap.size≤k_)) v0_ r1∧Below w.heap.size w w':=by
 have HO0:=m0 (show Kd.V (Kd.int .i64) 3 w w.heap.size (fun k_=>(P0_ k_∨w.heap.size≤k_)) (.slice A0 l0.length c0) l0 from Kd.V_mono hs0 (fun k_ hk=> .inl hk));have HB:=m0 (Below.refl w.heap.size w);unfold L_open.f at H;replace H:=oa H;obtain⟨⟨t117,t118⟩,A2,H⟩:=H;(try dsimp only at H);simp only[Option.some.injEq,Prod.mk.injEq]at H;obtain⟨rfl,rfl⟩:=H;go_enter Tryz.func39,Tryz.ntmps39
 go_wp2_with (first|((with_reducible refine gc 31 rfl ?_);refine gl (some 8) Tryz.func31 #[.slice A0 l0.length c0] ?_;(with_reducible refine(L_CheckProfile.calls k _ _ l0 t117 t118 _ ?side1 ?side2 A2.out).mono ?_);(case side1=>exact bc (Kd.V_reads' HO0.out).2.2);(case side2=>exact(Kd.V_reads' HO0.out).2.1);rintro e w3 ⟨rfl,hb⟩;refine⟨_,rfl,?_⟩;replace HO0:=vb HO0 hb;replace HB:=sb HB hb;(try clear hb)))
 go_ret2
 exact⟨_,e4,by(with_reducible repeat(first|apply Kd.V_alloc|apply Kd.V_drewN|apply Kd.V_drew));exact HO0.out,bz⟩
end
section
def L_isConstant.f (a0:Int):Option (Bool):=(L_within.f a0 1 1000000).bind fun t119=>(some t119)
theorem L_isConstant.calls (a0:Int) (r:Bool) (w:World) (H:L_isConstant.f a0=some r):
  Calls Tryz.prog 69 #[.int .i64 a0] w fun e w'=>e= .returned (.bool r)∧Drawn0 w w':=by
 unfold L_isConstant.f at H;replace H:=oa H;obtain⟨t119,A2,H⟩:=H;(try dsimp only at H);obtain rfl:=Option.some.inj H;go_enter Tryz.func69,Tryz.ntmps69
 go_wp2_with (first|((with_reducible refine gc 46 rfl ?_);refine gl (some 4) Tryz.func46 #[.int .i64 a0,.int .i64 1,.int .i64 1000000] ?_;(with_reducible refine(L_within.calls a0 1 1000000 t119 _ A2.out).mono ?_);rintro e w' ⟨rfl,⟨nd,rfl⟩⟩;refine⟨_,rfl,?_⟩))
 go_ret
 exact⟨rz,dz⟩
end
section
def L_constantErr.f (a0:Int):Option (Int):=(L_isConstant.f a0).bind fun t120=>((L_unless.f t120 2).bind fun t121=>(some t121))
theorem L_constantErr.calls (a0:Int) (r:Int) (w:World) (H:L_constantErr.f a0=some r):
  Calls Tryz.prog 41 #[.int .i64 a0] w fun e w'=>e= .returned (.int .i64 r)∧Drawn0 w w':=by
 unfold L_constantErr.f at H;replace H:=oa H;obtain⟨t120,A2,H⟩:=H;(try dsimp only at H);replace H:=oa H;obtain⟨t121,A3,H⟩:=H;(try dsimp only at H);obtain rfl:=Option.some.inj H;go_enter Tryz.func41,Tryz.ntmps41
 go_wp2_with (first|((with_reducible refine gc 69 rfl ?_);refine gl (some 4) Tryz.func69 #[.int .i64 a0] ?_;(with_reducible refine(L_isConstant.calls a0 t120 _ A2.out).mono ?_);rintro e w' ⟨rfl,⟨nd,rfl⟩⟩;refine⟨_,rfl,?_⟩)|((with_reducible refine gc 45 rfl ?_);refine gl (some 5) Tryz.func45 #[.bool t120,.int .i64 2] ?_;(with_reducible refine(L_unless.calls t120 2 t121 _ A3.out).mono ?_);rintro e w' ⟨rfl,⟨nd,rfl⟩⟩;refine⟨_,rfl,?_⟩))
 go_ret
 exact⟨rz,dz⟩
end
section
def L_profile_sum.l0:Nat→Int→List Int→Int→Int→Option (Int)
 |0,_,_,_,_=>none
 |k+1,x3,x6,x7,x8=>if x8<x7 then(if 0≤x8 then(if x8<(x6.length:Int)then(L_profile_sum.l0 k (wrap64 (x3+(rd x6 x8))) x6 x7 (wrap64 (x8+1)))else(none))else(none))else(some x3)
def L_profile_sum.f (k:Nat) (l0:List Int):Option (Int):=L_profile_sum.l0 k 0 l0 (l0.length:Int) 0
theorem L_profile_sum.mono_l:∀ k,(∀ y0 y1 y2 y3,LeO (L_profile_sum.l0 k y0 y1 y2 y3) (L_profile_sum.l0 (k+1) y0 y1 y2 y3))
 |0=>fun _ _ _ _ r h=>by simp[L_profile_sum.l0]at h
 | k+1=>by
  have ih0:=L_profile_sum.mono_l k
  ·intro y0 y1 y2 y3;unfold L_profile_sum.l0
   exact lz
theorem L_profile_sum.mono:∀ a0 k,LeO (L_profile_sum.f k a0) (L_profile_sum.f (k+1) a0):=by
 intro a0 k;have ih0:=L_profile_sum.mono_l k;unfold L_profile_sum.f
 exact lz
theorem L_profile_sum.calls (k:Nat) (A0:Option Addr) (c0:Nat) (l0:List Int) (r:Int) (w:World) (hr0:Kd.C (Kd.int .i64) w A0 l0.length l0) (hc0:l0.length≤c0) (H:L_profile_sum.f k l0=some r):
  Calls Tryz.prog 70 #[.slice A0 l0.length c0] w fun e w'=>e= .returned (.int .i64 r)∧Drawn0 w w':=by
 have HR0:=m0 hr0;have HC0:=m0 hc0;clear hr0 hc0;unfold L_profile_sum.f at H;have H':=m0 H;clear H;go_enter Tryz.func70,Tryz.ntmps70
 go_wp2
 go_loopg [3,8] k (fun kq v3 v8 w'=>∃ (x3_1:Int) (x8_1:Int),v3= .int .i64 x3_1∧v8= .int .i64 x8_1∧Aside0 (L_profile_sum.l0 kq x3_1 l0 (l0.length:Int) x8_1=some r)∧Aside0 (kq≤k)∧Drawn0 w w')
 case atStart=>exact⟨(0),(0),rz,rz,H',⟨Nat.le_refl _⟩,dz⟩
 case round=>
  clear H';obtain⟨x3_1,x8_1,rfl,rfl,HA,HK1,⟨m1,rfl⟩⟩:=hrel
  cases gk with
  |zero=>exact absurd HA.out (by simp[L_profile_sum.l0])
  | succ k1=>
   have H:=HA.out;clear HA;simp only[L_profile_sum.l0]at H
   by_cases c2:x8_1<(l0.length:Int)
   ·rw [if_pos c2]at H;have c2b0:=decide_eq_true c2;clear c2
    by_cases c3:0≤x8_1
    ·rw [if_pos c3]at H;have c3b0:=decide_eq_true c3;clear c3
     by_cases c4:x8_1<(l0.length:Int)
     ·rw [if_pos c4]at H;have c4b0:=decide_eq_true c4;clear c4;have H':=m0 H;clear H;have p122:0≤(x8_1:Int):=od;have q122:x8_1<(l0.length:Int):=od;obtain⟨ad122,e122,hx122_0⟩:=Kd.at_int HR0.out x8_1 p122 q122
      cases e122
      replace p122:=eq_true p122;replace q122:=eq_true q122
      go_wp2
      go_roundg k1
      case measure=>have:=HK1.out;omega
      case rel=>exact⟨(wrap64 (x3_1+(rd l0 x8_1))),(wrap64 (x8_1+1)),rz,rz,H',⟨by have:=HK1.out;omega⟩,dz⟩
     ·rw [if_neg c4]at H;exact absurd H (by simp)
    ·rw [if_neg c3]at H;exact absurd H (by simp)
   ·rw [if_neg c2]at H;have c2b0:=decide_eq_false c2;clear c2;obtain rfl:=Option.some.inj H
    go_wp2
    go_ret
    exact⟨rz,dz⟩
end
section
def L_divisor.l0:Nat→Int→Int→Option (Int)
 |0,_,_=>none
 |k+1,x0,x1=>if x1=0 then(some (mx x0 (wrap64 (-x0))))else(L_divisor.l0 k x1 (Int.tmod x0 x1))
def L_divisor.f (k:Nat) (a0:Int) (a1:Int):Option (Int):=L_divisor.l0 k a0 a1
theorem L_divisor.mono_l:∀ k,(∀ y0 y1,LeO (L_divisor.l0 k y0 y1) (L_divisor.l0 (k+1) y0 y1))
 |0=>fun _ _ r h=>by simp[L_divisor.l0]at h
 | k+1=>by
  have ih0:=L_divisor.mono_l k
  ·intro y0 y1;unfold L_divisor.l0
   exact lz
theorem L_divisor.mono:∀ a0 a1 k,LeO (L_divisor.f k a0 a1) (L_divisor.f (k+1) a0 a1):=by
 intro a0 a1 k;have ih0:=L_divisor.mono_l k;unfold L_divisor.f
 exact lz
theorem L_divisor.calls (k:Nat) (a0:Int) (a1:Int) (r:Int) (w:World) (H:L_divisor.f k a0 a1=some r):
  Calls Tryz.prog 93 #[.int .i64 a0,.int .i64 a1] w fun e w'=>e= .returned (.int .i64 r)∧Below w.heap.size w w':=by
 have HB:=m0 (Below.refl w.heap.size w);unfold L_divisor.f at H;have H':=m0 H;clear H;go_enter Tryz.func93,Tryz.ntmps93
 go_wp2
 repeat(go_quiet (fail);try go_wp2)
 go_loopg [0,1] k (fun kq v0 v1 w'=>∃ (x0_1:Int) (x1_1:Int),v0= .int .i64 x0_1∧v1= .int .i64 x1_1∧Aside0 (L_divisor.l0 kq x0_1 x1_1=some r)∧Aside0 (kq≤k)∧Aside0 (Below w.heap.size w w'))
 case atStart=>exact⟨(a0),(a1),rz,rz,H',⟨Nat.le_refl _⟩,⟨bz⟩⟩
 case round=>
  clear H';obtain⟨x0_1,x1_1,rfl,rfl,HA,HK1,HB⟩:=hrel
  cases gk with
  |zero=>exact absurd HA.out (by simp[L_divisor.l0])
  | succ k1=>
   have H:=HA.out;clear HA;simp only[L_divisor.l0]at H
   by_cases c3:x1_1=0
   ·rw [if_pos c3]at H;have c3b0:=beq_iff_eq.mpr c3;have c3b1:=bne_eq_false_iff_eq.mpr c3;clear c3;obtain⟨ji4,hji4⟩:∃ j_:Int,(mx x0_1 (wrap64 (-x0_1)))=j_:=⟨_,rfl⟩;replace H:(some ji4)=some r:=by first|(rw[hji4]at H;exact H)|(simp only[hji4]at H ⊢;exact H)
    have hji4_:(if x0_1<(wrap64 (-x0_1))then(wrap64 (-x0_1))else x0_1)=ji4:=hji4;obtain rfl:=Option.some.inj H
    go_wp2
    repeat(go_quiet (fail);try go_wp2)
    go_ret
    exact⟨by first|rfl|(simp[errW_none,errW_some]<;>rfl)|(simp only[← hji4];first|rfl|(simp[errW_none,errW_some]<;>rfl))|(simp[*,errW_none,errW_some]<;>rfl),bz⟩
   ·rw [if_neg c3]at H;have c3b0:=beq_eq_false_iff_ne.mpr c3;have c3b1:=bne_iff_ne.mpr c3;have H':=m0 H;clear H
    go_wp2
    repeat(go_quiet (fail);try go_wp2)
    go_roundg k1
    case measure=>have:=HK1.out;omega
    case rel=>exact⟨(x1_1),(Int.tmod x0_1 x1_1),rz,rz,H',⟨by have:=HK1.out;omega⟩,⟨bz⟩⟩
end
end Go.Proofs.YteiafijbgjgiaaaGreatDoor.A
