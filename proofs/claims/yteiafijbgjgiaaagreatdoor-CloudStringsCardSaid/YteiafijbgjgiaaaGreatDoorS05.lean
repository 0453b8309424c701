/-
More words with a step that fills itself in (for squeeze3.py).
-/
import Derived.Test.YteiafijbgjgiaaaGreatDoorS04
namespace Go.Proofs.YteiafijbgjgiaaaGreatDoor.A
open Go Go.RowKit Go.Proofs.YteiafijbgjgiaaaGreatDoorW.PrintWords Go.Proofs.YteiafijbgjgiaaaGreatDoorW.PrintLast Go.Proofs.YteiafijbgjgiaaaGreatDoorW.PrintMore
theorem oa {α β:Type} {x:Option α} {f:α→Option β} {b:β} (h:x.bind f=some b):∃ a,Aside0 (x=some a)∧f a=some b:=by
  obtain⟨a,h1,h2⟩:=Option.bind_eq_some_iff.mp h
  exact⟨a,⟨h1⟩,h2⟩
theorem hc {n:Nat} {w W:World} {p:Addr} {v:Value} (e:Aside0 (Below n w W)) (hx:w.cell? p=some v) (hn:Below n w W→Below w.heap.size w W:=by exact id):W.cell? p=some v:=((hn e.out).cell (World.block_lt_of_cell? w _ hx)).trans hx
theorem fs {w W:World} {k:Nat} {P:Prop} (hn:W.heap.size≤k) (h:w.heap.size≤W.heap.size:=by exact below_size bz):P∨w.heap.size≤k:= .inr (Nat.le_trans h hn)
theorem fb {w0 w1:World} {g k:Nat} {o:Obj} (e:Aside0 (w0.heap[g]?=some o)) (hn:w1.heap.size≤k) (h:w0.heap[g]?=some o→w1.heap[g]?=some o:=by intro e_;(with_reducible repeat(first|refine blk_drewN ?_ _|refine blk_drew ?_|refine blk_alloc ?_ _));exact e_):k≠g:=Kd.freshB (h e.out) k hn
theorem hv {α:Type} {d:Kd α} {e:Nat} {W:World} {base:Nat} {ok:Nat→Prop} {v:Value} {xs:List α} (w:World) (ok':Nat→Prop) (h:d.V e W base ok v xs) (hm:∀ k,ok k→ok' k):Aside0 (d.V e W w.heap.size ok' v xs):=⟨Kd.V_mono h hm⟩
theorem vf {α:Type} {d:Kd α} {e:Nat} {W:World} {base:Nat} {ok:Nat→Prop} {v:Value} {xs:List α} {p:Addr} {u:Value} (h:d.V e W base ok v xs) (hk:∀ {k},ok k→k≠p.block):d.V e (W.setCell p u) base ok v xs:=Kd.V_far h (fun _ x=>hk x) u
theorem vn {α:Type} {d:Kd α} {e:Nat} {W:World} {base:Nat} {ok:Nat→Prop} {v:Value} {xs:List α} (g:Nat) (h:d.V e W base ok v xs) (hk:∀ {k},ok k→k≠g):d.V e W base (fun k=>ok k∧k≠g) v xs:=Kd.V_mono h (fun _ x=>⟨x,hk x⟩)
theorem rf {α:Type} {d:Kd α} {e:Nat} {W:World} {base:Nat} {ok:Nat→Prop} {v:Value} {xs:List α} {p:Addr} {u:Value} (h:d.R e W base ok v xs) (hk:∀ {k},ok k→k≠p.block):d.R e (W.setCell p u) base ok v xs:=Kd.R_far h (fun _ x=>hk x) u
theorem rn {α:Type} {d:Kd α} {e:Nat} {W:World} {base:Nat} {ok:Nat→Prop} {v:Value} {xs:List α} (g:Nat) (h:d.R e W base ok v xs) (hk:∀ {k},ok k→k≠g):d.R e W base (fun k=>ok k∧k≠g) v xs:=Kd.R_mono h (fun _ x=>⟨x,hk x⟩)
theorem rz {p:Prop} (h:p:=by first|rfl|(simp;done)|(simp[*];done)):p:=h
theorem wz {W:World} {a:Addr} {v:Value} {g:Nat} {q:Prop} (hx:W.cell? a=some v) (G:Aside0 (W.heap.size≤g)) (h:a.block<g→q:=by intro h_;first|exact Nat.ne_of_lt h_|exact Nat.ne_of_lt (by rwa [add_block]at h_)|(rw[add_block];first|exact Nat.ne_of_lt h_|exact Nat.ne_of_lt (by rwa [add_block]at h_))|(show(Addr.add _ _).block≠_;rw[add_block];first|exact Nat.ne_of_lt h_|exact Nat.ne_of_lt (by rwa [add_block]at h_))|(dsimp only;exact Nat.ne_of_lt h_)):q:=h (Nat.lt_of_lt_of_le (World.block_lt_of_cell? _ _ hx) G.out)
section
variable {md:Region.Mode} {ops:Array Oper} {T:Bool×List (List Nat×List Nat)} {B ds:List Nat} {l l':Array Bool} {i:Nat}
theorem o1 (hT:Aside0 (rtab md ops=T)) (h:(readyT T.2 l.toList==[i] && l.toList.set i true==l'.toList)=true:=by kernel_rfl):readyB md ops l l' i=true:=one_of hT.out h
theorem tw (hT:Aside0 (rtab md ops=T)) (hB:Aside0 (waitsOk T.2 B=true)) (h:takeW T B ds l.toList l'.toList i=true:=by kernel_rfl):takeB md ops ds l l' i=true:=take_ofW hT.out hB.out h
end
section
variable {w:World} {g:Nat} {t:TypeId} {x0 x1 x2 x3 x4 x5 x6 x7 x8 x9:Value} {l:List Value}
theorem q0 (h:Aside0 (w.heap[g]?=some (.cells (x0::l).toArray t (0,0)))):w.cell? ⟨g,0,none⟩=some x0∧w.frozen? ⟨g,0,none⟩=false:=⟨(blk_cell h.out 0).trans rfl,blk_frozen h.out 0⟩
theorem q1 (h:Aside0 (w.heap[g]?=some (.cells (x0::x1::l).toArray t (0,0)))):w.cell? ⟨g,1,none⟩=some x1∧w.frozen? ⟨g,1,none⟩=false:=⟨(blk_cell h.out 1).trans rfl,blk_frozen h.out 1⟩
theorem q2 (h:Aside0 (w.heap[g]?=some (.cells (x0::x1::x2::l).toArray t (0,0)))):w.cell? ⟨g,2,none⟩=some x2∧w.frozen? ⟨g,2,none⟩=false:=⟨(blk_cell h.out 2).trans rfl,blk_frozen h.out 2⟩
theorem q5 (h:Aside0 (w.heap[g]?=some (.cells (x0::x1::x2::x3::x4::x5::l).toArray t (0,0)))):w.cell? ⟨g,5,none⟩=some x5∧w.frozen? ⟨g,5,none⟩=false:=⟨(blk_cell h.out 5).trans rfl,blk_frozen h.out 5⟩
theorem q6 (h:Aside0 (w.heap[g]?=some (.cells (x0::x1::x2::x3::x4::x5::x6::l).toArray t (0,0)))):w.cell? ⟨g,6,none⟩=some x6∧w.frozen? ⟨g,6,none⟩=false:=⟨(blk_cell h.out 6).trans rfl,blk_frozen h.out 6⟩
end
theorem ki {W:World} {b:Nat} {ok:Nat→Prop} (x:Int):Kd.M (Kd.int .i64) W b ok x [.int .i64 x]:=rfl
theorem nz {P:Program} {md:Region.Mode} {ops:Array Oper} {Q:Exit→Act→World→Prop} {S:World→Prop} {ds:List Nat} (k:Tmp) {fuel:Nat} {l:Array Bool} {a a':Act} {v:Value} {w:World} (h:wpAnyLast P md ops Q S ds fuel l a' w) (e:a.put (some k) v=a':=by exact pz):wpAnyLast P md ops Q S ds fuel l (a.put (some k) v) w:=norm_ e h
theorem ga {P:Program} {ops:Array Oper} {rest:List Oper} {o:Oper} {a:Act} {Q:Exit→Act→World→Prop} {W:World} (N:Tmp) (_hN:o.dst=some N) (h:wpList P ops Q (o::rest) a W):wpList P ops Q (o::rest) a W:=h
theorem gc {P:Program} {ops:Array Oper} {rest:List Oper} {o:Oper} {a:Act} {Q:Exit→Act→World→Prop} {W:World} (f:FuncId) {as:Array Operand} {ts:Array TypeId} (_ho:o.op= .call {callee:= .value (.func f),args:=as,argTypes:=ts }) (h:wpList P ops Q (o::rest) a W):wpList P ops Q (o::rest) a W:=h
end Go.Proofs.YteiafijbgjgiaaaGreatDoor.A
