/-
Words with a step that fills itself in (automatic arguments): they only make the printed walks shorter.
-/
import Derived.Test.YteiafijbgjgiaaaGreatDoorS03
namespace Go.Proofs.YteiafijbgjgiaaaGreatDoor.A
open Go Go.RowKit Go.Proofs.YteiafijbgjgiaaaGreatDoorW.PrintWords Go.Proofs.YteiafijbgjgiaaaGreatDoorW.PrintLast Go.Proofs.YteiafijbgjgiaaaGreatDoorW.PrintMore
def bs (n m:Nat):Array Bool:=((List.range n).map fun i=>m.testBit i).toArray
theorem m0 {p:Prop} (h:p):Aside0 p:=⟨h⟩
theorem ob {α β:Type} {x:Option α} {f:α→Option β} {b:β} (h:x.bind f=some b):∃ a,x=some a∧f a=some b:=Option.bind_eq_some_iff.mp h
theorem bz {p:Prop} (h:p:=by repeat(first|(with_reducible first|exact HB.out|apply below_alloc|apply pw_below_drewN|apply below_drew1|refine below_set ?_ (Aside0.out (by first|with_reducible assumption|assumption)))|exact HB.out)):p:=h
theorem mz {p:Prop} (h:p:=by(try simp only[List.map_toArray,List.map_cons,List.map_nil]);first|done|rfl|(simp only[List.length_drop,List.length_take];rfl)):p:=h
theorem bk {p q:Prop} (e:q) (h:q→p:=by intro e_;(with_reducible repeat(first|refine blk_drewN ?_ _|refine blk_drew ?_|refine blk_alloc ?_ _));exact e_):p:=h e
theorem br {p q:Prop} (e:q) (h:q→p:=by intro e_;(with_reducible repeat(first|apply Kd.R_alloc|apply Kd.R_drewN|apply Kd.R_drew));exact e_):p:=h e
theorem bc {p q:Prop} (e:q) (h:q→p:=by intro e_;repeat(first|exact e_|(with_reducible refine Kd.C_alloc ?_ _)|(with_reducible refine Kd.C_drewN ?_ _)|(with_reducible refine Kd.C_drew ?_))):p:=h e
theorem pz {p:Prop} (h:p:=by simp only[Act.put,List.setIfInBounds_toArray,List.set_cons_zero,List.set_cons_succ,i64_w,i32_w];rfl):p:=h
theorem bg {g n:Nat} {W:World} (hg:g=W.heap.size) (h:n≤W.heap.size:=by exact below_size bz):n≤g:=by rw[hg];exact h
theorem gw (w:World) {g:Nat} {W:World} (hg:g=W.heap.size) (h:w.heap.size≤W.heap.size:=by exact below_size bz):Aside0 (w.heap.size≤g):=⟨by rw[hg];exact h⟩
theorem bb {w0 w1 w2:World} {g:Nat} {o:Obj} (e:Aside0 (w0.heap[g]?=some o)) (hb:Below w1.heap.size w1 w2) (h:w0.heap[g]?=some o→w1.heap[g]?=some o:=by intro e_;(with_reducible repeat(first|refine blk_drewN ?_ _|refine blk_drew ?_|refine blk_alloc ?_ _));exact e_):Aside0 (w2.heap[g]?=some o):=⟨blk_below (h e.out) hb⟩
theorem sb {w W0 W w2:World} (_e:Aside0 (Below w.heap.size w W0)) (hb:Below W.heap.size W w2) (h:Below w.heap.size w W:=by exact bz):Aside0 (Below w.heap.size w w2):=⟨below_step h hb⟩
theorem rb {α:Type} {d:Kd α} {e:Nat} {w0 w1 w2:World} {base:Nat} {ok:Nat→Prop} {v:Value} {xs:List α} (x:Aside0 (d.R e w0 base ok v xs)) (hb:Below w1.heap.size w1 w2) (h:d.R e w0 base ok v xs→d.R e w1 base ok v xs:=by intro e_;(with_reducible repeat(first|apply Kd.R_alloc|apply Kd.R_drewN|apply Kd.R_drew));exact e_):Aside0 (d.R e w2 base ok v xs):=⟨Kd.R_below (h x.out) hb⟩
theorem vb {α:Type} {d:Kd α} {e:Nat} {w0 w1 w2:World} {base:Nat} {ok:Nat→Prop} {v:Value} {xs:List α} (x:Aside0 (d.V e w0 base ok v xs)) (hb:Below w1.heap.size w1 w2) (h:d.V e w0 base ok v xs→d.V e w1 base ok v xs:=by intro e_;(with_reducible repeat(first|apply Kd.V_alloc|apply Kd.V_drewN|apply Kd.V_drew));exact e_):Aside0 (d.V e w2 base ok v xs):=⟨Kd.V_below (h x.out) hb⟩
theorem ve {α:Type} {d:Kd α} {e:Nat} {w0 w1 w2:World} {base g:Nat} {ok:Nat→Prop} {v:Value} {xs:List α} (x:Aside0 (d.V e w0 base ok v xs)) (hg:g=w1.heap.size) (hb:Below w1.heap.size w1 w2) (h:d.V e w0 base ok v xs→d.V e w1 base ok v xs:=by intro e_;(with_reducible repeat(first|apply Kd.V_alloc|apply Kd.V_drewN|apply Kd.V_drew));exact e_):Aside0 (d.V e w2 base (fun k=>ok k∧k≠g) v xs):=⟨Kd.V_below (Kd.V_elderB (h x.out) g (Nat.le_of_eq hg.symm)) hb⟩
theorem bq {p q:Prop} (e:q) (h:q→p:=by(intro e_;(repeat(first|(with_reducible exact e_)|(with_reducible refine blk_drewN ?_ _)|(with_reducible refine blk_drew ?_)|(with_reducible refine blk_alloc ?_ _)|(with_reducible apply blk_put)|(refine blk_far ?_ (Aside0.out (by first|with_reducible assumption|assumption)) _)));(all_goals rfl))):p:=h e
theorem bd {w:World} {g:Nat} {o:Obj} (e:Aside0 (w.heap[g]?=some o)):Aside0 (w.drew.heap[g]?=some o):=⟨blk_drew e.out⟩
theorem sd {w W:World} (e:Aside0 (Below w.heap.size w W)):Aside0 (Below w.heap.size w W.drew):=⟨below_drew1 e.out⟩
theorem gd {w0 w1 w2:World} {g n:Nat} {o:Obj} (e:Aside0 (w0.heap[g]?=some o)) (hq:w1.drewN n=w2) (h:w0.heap[g]?=some o→w1.heap[g]?=some o:=by exact fun e_=>bq e_):Aside0 (w2.heap[g]?=some o):=⟨hq▸blk_drewN (h e.out) n⟩
theorem gs {w W0 W w2:World} {n:Nat} (_e:Aside0 (Below w.heap.size w W0)) (hq:W.drewN n=w2) (h:Below w.heap.size w W:=by exact bz):Aside0 (Below w.heap.size w w2):=⟨hq▸pw_below_drewN h n⟩
theorem gr {α:Type} {d:Kd α} {e:Nat} {w0 w1 w2:World} {base n:Nat} {ok:Nat→Prop} {v:Value} {xs:List α} (x:Aside0 (d.R e w0 base ok v xs)) (hq:w1.drewN n=w2) (h:d.R e w0 base ok v xs→d.R e w1 base ok v xs:=by intro e_;(with_reducible repeat(first|apply Kd.R_alloc|apply Kd.R_drewN|apply Kd.R_drew));exact e_):Aside0 (d.R e w2 base ok v xs):=⟨hq▸Kd.R_drewN (h x.out) n⟩
theorem cb {α:Type} {d:Kd α} {w W:World} {A:Option Addr} {n:Nat} {xs:List α} {p:Prop} (x:Aside0 (d.C w A n xs)) (y:Aside0 (Below w.heap.size w W)) (h:d.C W A n xs→p:=by intro e_;repeat(first|exact e_|(with_reducible refine Kd.C_alloc ?_ _)|(with_reducible refine Kd.C_drewN ?_ _)|(with_reducible refine Kd.C_drew ?_))):p:=h (Kd.C_below x.out y.out)
theorem nl {w0 w1:World} {g g':Nat} {o:Obj} (e:Aside0 (w0.heap[g]?=some o)) (hg:g'=w1.heap.size) (h:w0.heap[g]?=some o→w1.heap[g]?=some o:=by intro e_;(with_reducible repeat(first|refine blk_drewN ?_ _|refine blk_drew ?_|refine blk_alloc ?_ _));exact e_):Aside0 (g≠g'):=⟨hg▸Nat.ne_of_lt (blk_lt (h e.out))⟩
theorem ng {g g':Nat} (h:Aside0 (g≠g')):Aside0 (g'≠g):=⟨h.out.symm⟩
theorem od {p:Prop} [Decidable p] (h:decide p=true:=by first|(with_reducible assumption)|assumption):p:=of_decide_eq_true h
theorem cf {p q:Prop} (s:q) (h:q→p:=by(intro s_;(repeat' (first|(with_reducible refine And.intro ?_ ?_)|(with_reducible refine(cell_far ?_ _).trans ?_)|(first|exact s_|((repeat(first|exact s_.1|(have s_:=s_.2)));all_goals exact s_))|(exact Aside0.out (by first|with_reducible assumption|assumption)))))):p:=h s
theorem b1 {w:World} {g:Nat} {t:TypeId} {x0:Value} (h:Aside0 (w.heap[g]?=some (.cells #[x0] t (0,0)))):w.cell? ⟨g,0,none⟩=some x0∧w.frozen? ⟨g,0,none⟩=false:=⟨blk_cell h.out 0,blk_frozen h.out 0⟩
theorem b2 {w:World} {g:Nat} {t:TypeId} {x0 x1:Value} (h:Aside0 (w.heap[g]?=some (.cells #[x0,x1] t (0,0)))):w.cell? ⟨g,0,none⟩=some x0∧w.cell? ⟨g,1,none⟩=some x1∧w.frozen? ⟨g,0,none⟩=false∧w.frozen? ⟨g,1,none⟩=false:=⟨blk_cell h.out 0,blk_cell h.out 1,blk_frozen h.out 0,blk_frozen h.out 1⟩
theorem b3 {w:World} {g:Nat} {t:TypeId} {x0 x1 x2:Value} (h:Aside0 (w.heap[g]?=some (.cells #[x0,x1,x2] t (0,0)))):w.cell? ⟨g,0,none⟩=some x0∧w.cell? ⟨g,1,none⟩=some x1∧w.cell? ⟨g,2,none⟩=some x2∧w.frozen? ⟨g,0,none⟩=false∧w.frozen? ⟨g,1,none⟩=false∧w.frozen? ⟨g,2,none⟩=false:=⟨blk_cell h.out 0,blk_cell h.out 1,blk_cell h.out 2,blk_frozen h.out 0,blk_frozen h.out 1,blk_frozen h.out 2⟩
theorem b4 {w:World} {g:Nat} {t:TypeId} {x0 x1 x2 x3:Value} (h:Aside0 (w.heap[g]?=some (.cells #[x0,x1,x2,x3] t (0,0)))):w.cell? ⟨g,0,none⟩=some x0∧w.cell? ⟨g,1,none⟩=some x1∧w.cell? ⟨g,2,none⟩=some x2∧w.cell? ⟨g,3,none⟩=some x3∧w.frozen? ⟨g,0,none⟩=false∧w.frozen? ⟨g,1,none⟩=false∧w.frozen? ⟨g,2,none⟩=false∧w.frozen? ⟨g,3,none⟩=false:=⟨blk_cell h.out 0,blk_cell h.out 1,blk_cell h.out 2,blk_cell h.out 3,blk_frozen h.out 0,blk_frozen h.out 1,blk_frozen h.out 2,blk_frozen h.out 3⟩
theorem ez {p q:Prop} (h:p:=by first|rfl|(simp[errW_none,errW_some]<;>rfl)|(simp[*,errW_none,errW_some]<;>rfl)) (h2:q:=by exact bz):p∧q:=⟨h,h2⟩
section
variable {P:Program} {md:Region.Mode} {ops:Array Oper} {Q:Exit→Act→World→Prop} {S:World→Prop} {ds:List Nat} {T:Bool×List (List Nat×List Nat)} {B:List Nat}
theorem pureZ {i:Nat} {N:Option Tmp} {oi:Oper} {v:Value} {fuel:Nat} {l:Array Bool} {a:Act} {w:World} (l':Array Bool) (hT:Aside0 (rtab md ops=T)) {a':Act}
    (h:wpAnyLast P md ops Q S ds fuel l' a' w) (hi:ops[i]?=some oi:=by rfl) (hN:oi.dst=N:=by rfl) (hc:anyT T l.toList l'.toList i=true:=by kernel_rfl)
    (hw:Region.wanted oi (yielded ops a.tmps)=true:=by rfl) (hy:∀ w':World,(execOp a.eval oi).run P w'= .ok (.value v) w':=by intro w';go_simp;with_reducible rfl) (ha:a.put N v=a':=by exact pz) (hQ:∀ c a w,Q (.panic c) (a.put oi.dst v) w→Q (.panic c) a w:=by exact fun _ _ _ h=>h):
    wpAnyLast P md ops Q S ds (fuel+1) l a w:=
  pure_ l' hi hN (any_of hT.out hc) hQ (Or.inl ⟨hw,hy⟩) ha h
theorem pZ (i:Nat) (N:Option Tmp) {oi:Oper} {v:Value} {fuel:Nat} {l:Array Bool} {a:Act} {w:World} (l':Array Bool) (hT:Aside0 (rtab md ops=T)) {a':Act}
    (h:wpAnyLast P md ops Q S ds fuel l' a' w) (hi:ops[i]?=some oi:=by rfl) (hN:oi.dst=N:=by rfl) (hc:anyT T l.toList l'.toList i=true:=by kernel_rfl)
    (hw:Region.wanted oi (yielded ops a.tmps)=true:=by rfl) (hy:∀ w':World,(execOp a.eval oi).run P w'= .ok (.value v) w':=by intro w';go_simp;with_reducible rfl) (ha:a.put N v=a':=by exact pz) (hQ:∀ c a w,Q (.panic c) (a.put oi.dst v) w→Q (.panic c) a w:=by exact fun _ _ _ h=>h):
    wpAnyLast P md ops Q S ds (fuel+1) l a w:=
  pure_ l' hi hN (any_of hT.out hc) hQ (Or.inl ⟨hw,hy⟩) ha h
end
section
variable {P:Program} {md:Region.Mode} {ops:Array Oper} {Q:Exit→Act→World→Prop} {S:World→Prop} {ds:List Nat}
theorem cz {p:Prop} (h:p:=by(repeat(first|refine⟨?_,?_⟩|exact(blk_cell (Aside0.out (by assumption)) _).trans rfl))):p:=h
theorem takeZ {fuel:Nat} {l:Array Bool} {a:Act} {w:World} {oi:Oper} {v:Value} {a':Act} (i:Nat) (N:Option Tmp) (l':Array Bool) (hc:takeB md ops ds l l' i=true) (hS:S w)
    (h:wpAnyLast P md ops Q S ds fuel l' a' w) (hi:ops[i]?=some oi:=by rfl) (hN:oi.dst=N:=by rfl)
    (hw:Region.wanted oi (yielded ops a.tmps)=true:=by rfl) (hy:∀ w':World,S w'→(execOp a.eval oi).run P w'= .ok (.value v) w':=by(intro w';(try simp only[and_imp]);intros;go_simp;with_reducible rfl)) (ha:a.put N v=a':=by exact pz) (hQ:∀ c a w,Q (.panic c) (a.put oi.dst v) w→Q (.panic c) a w:=by exact fun _ _ _ h=>h):
    wpAnyLast P md ops Q S ds (fuel+1) l a w:=
  take_ l' hi hN hc hQ (Or.inl ⟨hw,hy⟩) hS ha h
theorem oneZ {fuel:Nat} {l:Array Bool} {a:Act} {w:World} {oi:Oper} (i:Nat) (N:Option Tmp) (l':Array Bool) (hc:readyB md ops l l' i=true)
    (h:∀ K:Act→World→Prop,Shut (∀ a' w',S w'→(S w'→wpAnyLast P md ops Q S ds fuel l' a' w')→K a' w')→if Region.wanted oi (yielded ops a.tmps)=true then Oper.wp P oi a w K Q else K (a.put N undef) w)
    (hi:ops[i]?=some oi:=by rfl) (hN:oi.dst=N:=by rfl) (hd:i∉ds:=by decide):wpAnyLast P md ops Q S ds (fuel+1) l a w:=
  one_ l' hi hN hc hd h
end
section
variable {P:Program} {ops:Array Oper} {Q:Exit→Act→World→Prop}
theorem gz {oi:Oper} {N:Option Tmp} {a:Act} {w:World} {K:Act→World→Prop} {f:FuncId} {fn:Func} {as:Array Operand} {ts:Array TypeId} (hf:P.funcs[f]?=some fn) (args:Array Value)
    (h:Calls P f args w fun e w'=>∃ v,e= .returned v∧K (a.put N v) w')
    (hw:Region.wanted oi (yielded ops a.tmps)=true:=by rfl) (hN:oi.dst=N:=by rfl) (hop:oi.op= .call {callee:= .value (.func f),args:=as,argTypes:=ts }:=by rfl) (hname:(fn.name== "runtime.NumGoroutine")=false:=by kernel_rfl) (hb:fn.body.isSome=true:=by rfl) (hargs:as.map a.eval=args:=by exact mz):
    if Region.wanted oi (yielded ops a.tmps)=true then Oper.wp P oi a w K Q else K (a.put N undef) w:=
  goes_ hf hname hb args hw hN hop hargs h
end
section
variable {P:Program} {ops:Array Oper} {rest:List Oper} {oi o:Oper} {a:Act} {w W:World} {Q:Exit→Act→World→Prop}
theorem gl {f:FuncId} (N:Option Tmp) {fn:Func} {as:Array Operand} {ts:Array TypeId} (hf:P.funcs[f]?=some fn) (args:Array Value)
    (h:Calls P f args w fun e w'=>∃ v,e= .returned v∧wpList P ops Q rest (a.put N v) w')
    (hop:oi.op= .call {callee:= .value (.func f),args:=as,argTypes:=ts }:=by rfl) (hd:oi.dst=N:=by rfl) (hg:oi.guard=none:=by rfl) (hname:(fn.name== "runtime.NumGoroutine")=false:=by kernel_rfl) (hb:fn.body.isSome=true:=by rfl) (hargs:as.map a.eval=args:=by exact mz):wpList P ops Q (oi::rest) a w:=
  goesL_ N hd hg hf hname hb args hop hargs h
theorem be (N:Tmp) (t:TypeId) (cs:Array Value)
    (h:∀ g,g=W.heap.size→∀ w1,w1.heap[g]?=some (.cells cs t (0,0))→Below W.heap.size W w1→wpList P ops Q rest (a.put o.dst (.pointer (some ⟨g,0,none⟩))) w1)
    (hd:o.dst=some N:=by rfl) (hgd:o.guard=none:=by rfl) (hrun:(execOp a.eval o).run P W= .ok (.value (.pointer (some ⟨W.heap.size,0,none⟩))) (W.alloc (.cells cs t (0,0))):=by first|(go_simp;done)|(go_simp;rfl)):wpList P ops Q (o::rest) a W:=
  box_event hgd hd hrun h
end
end Go.Proofs.YteiafijbgjgiaaaGreatDoor.A
