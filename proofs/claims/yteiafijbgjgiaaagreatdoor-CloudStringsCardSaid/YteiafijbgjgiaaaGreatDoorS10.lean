/- Walks of the program's functions (printed, made shorter), each with what it computes. -/
import Derived.Sort.OwnSortedInts
import Derived.Test.YteiafijbgjgiaaaGreatDoorS09
import Derived.Test.YteiafijbgjgiaaaGreatDoorS08
namespace Go.Proofs.YteiafijbgjgiaaaGreatDoor.A
set_option maxHeartbeats 8000000
set_option maxRecDepth 100000
open Go.RowKit Go.Proofs.YteiafijbgjgiaaaGreatDoorW.PrintWords Go.Proofs.YteiafijbgjgiaaaGreatDoorW.PrintLast Go.Proofs.YteiafijbgjgiaaaGreatDoorW.PrintMore
attribute [local go_sem] max2_int min2_int max_two min_two max_three min_three max_four min_four
set_option linter.unusedVariables false
set_option linter.unusedSimpArgs false
section
def slices_Sort_int_int.f (l0:List Int):Option (List Int):=if l0.length<4611686018427387904 then some (isort l0)else none
theorem slices_Sort_int_int.calls (P0_:Nat→Prop) (u9000_:Value) (l0:List Int) (r:List Int) (w0 w:World) (hB:Below w0.heap.size w0 w) (ho0:Kd.R (Kd.int .i64) 3 w w0.heap.size P0_ u9000_ l0) (h:slices_Sort_int_int.f l0=some r):
  Calls Tryz.prog 81 #[u9000_] w fun e w'=>e= .returned (.tuple #[])∧Kd.R (Kd.int .i64) 3 w' w0.heap.size (fun k_=>(P0_ k_∨w.heap.size≤k_)) u9000_ r∧Below w0.heap.size w0 w'∧Kept w w' (fun k_=>P0_ k_):=by
 unfold slices_Sort_int_int.f at h
 by_cases hsz:l0.length<4611686018427387904
 case neg=>simp[hsz]at h
 rw[if_pos hsz,isort_eq]at h;obtain rfl:(l0.mergeSort fun x y=>decide (x≤y))=r:=Option.some.inj h;have hok:=ho0.1;have ho:=Kd.own_of_R ho0;have hl:(l0.mergeSort fun x y=>decide (x≤y)).length=l0.length:=List.length_mergeSort _;obtain⟨hi,⟨rfl,h0⟩|⟨g,cap,cur,rfl,hbase,hb,h1,h2,h3,h4⟩⟩:=ho
 ·obtain rfl:l0=[]:=List.length_eq_zero_iff.1 h0;refine(Any.slices_Sort_int_none Tryz.lays189 none 0 w).mono ?_;rintro e w' ⟨rfl,rfl⟩;exact⟨rfl,by rw[List.mergeSort_nil];exact Kd.R_nil _ _ _ _ _,hB,Kept.refl _ _⟩
 ·have hg:g<w.heap.size:=(Array.getElem?_eq_some_iff.1 hb).1;have h4':cur.toList.take l0.length=l0.map (Value.int .i64):=by simpa [encs]using h4
  refine(Any.slices_Sort_int Tryz.lays189 g 0 cap l0 w (holds_of_blockI hb h4') hg hsz).mono ?_;rintro e w' ⟨rfl,n,os,rfl⟩;have hgb:=grownBy_sortedI (w:=w) (g:=g) (n:=n) (os:=os) (l0.mergeSort fun x y=>decide (x≤y)).toArray;refine⟨rfl,?_,?_,Kept.of_grown hgb (Kept.refl _ _) (fun k hk=> .inl (hok k (by rw[← hk];rfl)))⟩
  ·have hown:=ownsRow_sortedI (n:=n) (os:=os) (ts:=l0.mergeSort fun x y=>decide (x≤y)) hl hbase hb h1 h2 h3;refine Kd.R_of_own (enc:=Value.int .i64) ?_ (fun k hk=> .inl (hok k hk));rw[hl]
   simpa [encs]using hown
  ·exact ⟨hB.os,hB.tape,hB.output,Nat.le_trans hB.size hgb.size,fun k hk=>(hgb.block k (Nat.lt_of_lt_of_le hk hB.size) (fun e=>by cases e;omega)).trans (hB.block k hk)⟩
end
section
theorem blk_own_ {W W':World} {row:Option Nat} {B g:Nat} {cs:Array Value} {t:TypeId} {mk:Nat×Nat} (h:W.heap[g]?=some (.cells cs t mk)) (hg:W.grownBy W' row) (hr:∀ r,row=some r→B≤r∧∃ o:Obj,W.heap[r]?=some o∧o.isCells=false):W'.heap[g]?=some (.cells cs t mk):=by
  refine(hg.block g (blk_lt h) fun e=>?_).trans h;obtain⟨_,o,ho,hc⟩:=hr g e.symm;rw[h]at ho
  cases ho
  cases hc
theorem cells_new_ (W:World) (cs:List Value) (e:TypeId) (j:Nat) (u:Value) (h:cs[j]?=some u):(W.alloc (.cells cs.toArray e)).cell? ((⟨W.heap.size,0,none⟩:Addr).add j)=some u:=by
  rw[add_plain];refine(blk_cell (blk_new W (.cells cs.toArray e (0,0))) j).trans ?_
  simpa using h
theorem row_cells_ {W:World} {base:Nat} {e:TypeId} {size:Nat} {v:Value} {k:Nat} {xs:List Value} (h:W.ownsRow base e size v k xs) (j:Nat) (o:Obj) (hj:v.ownBlock=some j) (ho:W.heap[j]?=some o):o.isCells=true:=by
  rcases h.2 with ⟨rfl,_⟩|⟨g,cap,cur,rfl,hb,hgb,_⟩
  · simp[Value.ownBlock]at hj
  · obtain rfl:g=j:=by simpa [Value.ownBlock]using hj
    rw[hgb]at ho;cases ho;rfl
theorem row_turned_ {W W':World} {row:Option Nat} {base:Nat} {e:TypeId} {size:Nat} {v:Value} {k:Nat} {xs:List Value} (h:W.ownsRow base e size v k xs) (hg:W.grownBy W' row)
    (hrow:∀ r,row=some r→∃ o:Obj,W.heap[r]?=some o∧o.isCells=false):W'.ownsRow base e size v k xs:=by
  refine h.kept hg ?_
  rcases h.2 with ⟨rfl,_⟩|⟨g,cap,cur,rfl,_,hgb,_⟩
  · exact .inl rfl
  · refine .inr fun e'=>?_;obtain⟨o,ho,hw⟩:=hrow g (by simpa [Value.ownBlock]using e'.symm);rw[hgb]at ho;cases ho;cases hw
theorem row_far_ {W:World} {base:Nat} {e t:TypeId} {size:Nat} {v:Value} {k:Nat} {xs:List Value} {b:Nat} {cs:Array Value} (u:Value) (h:W.ownsRow base e size v k xs) (hb:W.heap[b]?=some (.cells cs t (0,0))) (hne:e≠t):(W.setCell ⟨b,0,none⟩ u).ownsRow base e size v k xs:=by
  refine h.kept (row:=some b) (by
    have hs:(W.setCell ⟨b,0,none⟩ u).heap.size=W.heap.size:=by simp[World.setCell]
    exact⟨rfl,rfl,rfl,Nat.le_of_eq hs.symm,fun k hk hne=>Below.heap_setCell W ⟨b,0,none⟩ u k (fun e=>hne (by rw[e]))⟩) ?_
  rcases h.2 with ⟨rfl,_⟩|⟨g,cap,cur,rfl,_,hgb,_⟩
  · exact .inl rfl
  · refine .inr fun e'=>?_;obtain rfl:g=b:=by simpa [Value.ownBlock]using e'
    rw[hgb]at hb
    injection hb with hb
    injection hb with _ hb
    exact hne hb
theorem row_ne_ {W:World} {base:Nat} {e t:TypeId} {size:Nat} {v:Value} {k:Nat} {xs:List Value} {b:Nat} {cs:Array Value} (h:W.ownsRow base e size v k xs) (hb:W.heap[b]?=some (.cells cs t (0,0))) (hne:e≠t):some b≠v.ownBlock:=by
  rcases h.2 with ⟨rfl,_⟩|⟨g,cap,cur,rfl,_,hgb,_⟩
  · simp[Value.ownBlock]
  · intro e';obtain rfl:b=g:=by simpa [Value.ownBlock]using e'
    rw[hgb]at hb
    injection hb with hb
    injection hb with _ hb
    exact hne hb
theorem row_base_ {W:World} {base:Nat} {e:TypeId} {size:Nat} {v:Value} {k:Nat} {xs:List Value} (h:W.ownsRow base e size v k xs) (j:Nat) (hj:v.ownBlock=some j):base≤j:=by
  rcases h.2 with ⟨rfl,_⟩|⟨g,cap,cur,rfl,hb,hgb,_⟩
  · simp[Value.ownBlock]at hj
  · obtain rfl:g=j:=by simpa [Value.ownBlock]using hj
    exact hb
attribute [local go_sem] Oper.semAt_some
def slices_AppendSeq_int_int.I (w:World) (pre:List Int) (W:World):Prop:=∃ (v:Value) (cs:List Value),W.heap[w.heap.size]?=some (.cells #[v] 22 (0,0))∧W.ownsRow w.heap.size 3 1 v pre.length cs∧(∀ (U:World) (ok:Nat→Prop),Reps (((Kd.int .i64)).M U w.heap.size ok) 1 pre cs)
theorem slices_AppendSeq_int_int.calls_own (gf:Nat) (lb:Array Value) (eg:∀ args w,(callFunc gf args).run Tryz.prog w= .ok (.enter gf args) w) (l:List Int) (n₀:Nat) (w:World) (hn:n₀≤w.heap.size) (hN:l.length*8≤140737488355328)
    (hseq:SeqStopsK Fence.wide 8 Tryz.prog gf lb (fun x_:Int=>(#[(.int .i64 (x_))]:Array Value)) (Below n₀) (fun ys=>ys=l) (fun _=>True) l.length w):
    Calls Tryz.prog 138 #[.slice none 0 0,.func (.func gf) #[] lb] w fun e w'=>∃ v,e= .returned v∧Kd.R (Kd.int .i64) 3 w' w.heap.size (fun _=>True) v l∧Below w.heap.size w w':=by
  refine(callsIn_wide (n:=9)).1 (callsIn_of_wp_marks Tryz.func138 rfl trivial ?_ rfl);simp only[Tryz.ntmps138,List.size_toArray,List.length_cons,List.length_nil,Nat.reduceAdd,Nat.reduceSub,Array.replicate_succ,Array.replicate_zero,List.push_toArray,List.append_toArray,List.nil_append,List.cons_append];have HS:=m0 hseq;have HN:=m0 hN;clear hseq hN
  gi_wp2
  obtain⟨W0,hW0⟩:∃ W0,w.alloc (.cells #[.slice none 0 0] 22)=W0:=⟨_,rfl⟩;have hz:W0.heap.size=w.heap.size+1:=by rw[← hW0];simp
  have hb0:Below w.heap.size w W0:=by rw[← hW0];exact below_alloc (Below.refl _ _) _
  have hk0:W0.heap[w.heap.size]?=some (.cells #[.slice none 0 0] 22 (0,0)):=by rw[← hW0];exact blk_new _ _
  rw [hW0];clear hW0;have HZ:=m0 hz;have HB0:=m0 hb0;obtain⟨i0,hi,hz0,hz1,hz2⟩:=info_parts info3;refine wpIn_rangeFunc_ownH (n:=9) rfl (by decide) (gf:=gf) (lb:=lb) rfl trivial eg HS.out (fun h k=>belowK_t h k) (fun W l o o' hl h hc hw=>belowK_b (w:=W0) (by omega) W l o o' hl h hc hw) hb0 (fun _=>rfl)
    (fun pre W=>slices_AppendSeq_int_int.I w pre W∧Below w.heap.size w W) (fun _ _ _=>False)
    (OwnFrom.and (fun s A B row hs hg hr=>by
      obtain⟨v,cs,h1,h2,h3⟩:=hs;exact⟨v,cs,blk_own_ h1 hg hr,row_turned_ h2 hg (fun r e=>(hr r e).2),h3⟩) (ownFrom_below (Nat.le_refl _) (by omega)))
    (fun _ _ _ _ _ hs _ _=>hs) ⟨⟨_,[],hk0,⟨rfl,.inl ⟨rfl,rfl⟩⟩,fun _ _=>Reps.none _ _⟩,hb0⟩
    (fun x a' W=>a'=({tmps:= #[.slice none 0 0,.func (.func gf) #[] lb,.pointer (some ⟨w.heap.size,0,none⟩),undef,.slice none 0 0,(.int .i64 (x)),.func (.func gf) #[] lb,(.int .i64 (x)),undef,undef,undef,undef,undef],defers:=[] }:Act)) (fun x a'=>fun _ _ _ _ hs _ _=>hs) ?assign ?body ?done ?stop
  case stop=>
    rintro D c pre W _ _ h _;exact h.elim
  case assign=>
    rintro l_ pre x W K ⟨⟨v,cs,h1,h2,h3⟩,hB⟩ hK;have HKK:=m0 hK;have HI:=m0 (show slices_AppendSeq_int_int.I w pre W∧Below w.heap.size w W from⟨⟨v,cs,h1,h2,h3⟩,hB⟩);clear hK h1 h2 h3 hB
    gi_wp2
    exact HKK.out _ _ (KeepsFrom.refl _ _) (Below.refl _ _) HI.out rfl
  case body=>
    rintro l_ pre x a' W hl hrec ⟨⟨v,cs,h1,h2,h3⟩,hB⟩ rfl hlen;have hcv:W.cell? ⟨w.heap.size,0,none⟩=some v:=(blk_cell h1 0).trans rfl;have hfv:=blk_frozen h1 0;have hlr:cs.length=pre.length*1:=h2.1;have hnl:=HN.out;have hsz:=hB.size;have H1:=m0 h1;have H3:=m0 h3;have HBB:=m0 hB;have HLEN:=m0 hlen;clear h1 h3 hB hl hrec hlen hnl hlr
    gi_wp2_with (first
      | (gi_at_builtin;refine wpListIn_append_own _ rfl _ _ 22 rfl w.heap.size 3 i0 (.int .i64 0) 1 8 Tryz.underlying22 hi hz0 hz1 hz2 rfl (by decide) v pre.length cs rfl (h2.alloc _) ⟨W.heap.size,0,none⟩ 1 1 [.int .i64 (x)] rfl rfl (cells_new_ W _ 3) (by simp[Value.oneCell']) (by have:=HLEN.out;have:=HN.out;unfold maxLen;omega) (by have:=HLEN.out;have:=HN.out;omega) (by simp;omega) ?_;intro v' w3 hown' hg3 hnil3
         have hv3:w3.heap[w.heap.size]?=some (.cells #[v] 22 (0,0)):=(hg3.block _ (by simp;have:=blk_lt H1.out;omega) (row_ne_ h2 H1.out (by decide))).trans (blk_alloc H1.out _);have hcv3:w3.cell? ⟨w.heap.size,0,none⟩=some v:=(blk_cell hv3 0).trans rfl;have hfv3:=blk_frozen hv3 0;obtain⟨g',cap',cur',rfl,hbase',hgb',hr1,hr2,hr3,hr4⟩:∃ g' cap' cur',v'= .slice (some ⟨g',0,none⟩) (pre.length+1) cap'∧w.heap.size≤g'∧w3.heap[g']?=some (.cells cur' 3 (0,0))∧pre.length+1≤cap'∧cap'≤maxLen∧cur'.size=cap'*1∧cur'.toList.take ((pre.length+1)*1)=cs++ [.int .i64 (x)]:=by
           rcases hown'.2 with ⟨_,h0⟩|h'
           · exact absurd h0 (by omega)
           · exact h'
         have HV3:=m0 hv3;have HOWN:=m0 hown';have HG3:=m0 hg3;clear hv3 hown' hg3 hnil3 hbase' hgb' hr1 hr2 hr3 hr4))
    have hgA:W.grownBy (W.alloc (.cells ([.int .i64 (x)]:List Value).toArray 3)) none:=World.grownBy_alloc W _ none;have hbA:Below w.heap.size W (W.alloc (.cells ([.int .i64 (x)]:List Value).toArray 3)):=(Below.refl _ _).alloc hsz _;have hb3:Below w.heap.size W w3:=hbA.grown HG3.out (by simp;omega) (fun k e=>row_base_ h2 k e);have hb4:=hb3.setCell (p:=⟨w.heap.size,0,none⟩) (Nat.le_refl _) (.slice (some ⟨g',0,none⟩) (pre.length+1) cap');refine⟨((((KeepsOthers.alloc W (.cells ([.int .i64 (x)]:List Value).toArray 3)).trans (KeepsOthers.of_grownBy HG3.out (row_cells_ (h2.alloc _)))).trans (KeepsOthers.setCell _ _ _)).from _),hb4.mono hn,⟨.slice (some ⟨g',0,none⟩) (pre.length+1) cap',cs++ [.int .i64 (x)],?_,?_,?_⟩,HBB.out.trans hb4⟩
    · exact blk_put HV3.out 0 _ rfl
    · have:=row_far_ (.slice (some ⟨g',0,none⟩) (pre.length+1) cap') HOWN.out HV3.out (by decide)
      simpa using this
    · intro U ok;exact Reps.snoc (H3.out U ok) (rfl) rfl
  case done=>
    rintro D ys W hD rfl ⟨⟨v,cs,h1,h2,h3⟩,hB⟩ hK;have hcv:W.cell? ⟨w.heap.size,0,none⟩=some v:=(blk_cell h1 0).trans rfl;have hfv:=blk_frozen h1 0;have H1:=m0 h1;have H2:=m0 h2;have H3:=m0 h3;have HBB:=m0 hB;clear h1 h2 h3 hB
    gi_wp2
    refine⟨by simp,.inl ⟨_,_,rfl,run_takeDeferred hK,?_⟩⟩;have hgD:=grownBy_putObj' W D (.deferred none);refine⟨_,results_tmp rfl _ _ _,v,rfl,⟨fun _ _=>trivial,cs,row_turned_ H2.out hgD (fun r e=>by cases e;exact⟨_,hK,rfl⟩),H3.out _ _⟩,HBB.out.grown hgD HBB.out.size (fun k e=>by cases e;omega)⟩
end
section
theorem slices_Collect_int.calls_own (gf:Nat) (lb:Array Value) (eg:∀ args w,(callFunc gf args).run Tryz.prog w= .ok (.enter gf args) w) (l:List Int) (n₀:Nat) (w:World) (hn:n₀≤w.heap.size) (hN:l.length*8≤140737488355328)
  (hseq:SeqStopsK Fence.wide 8 Tryz.prog gf lb (fun x_:Int=>(#[(.int .i64 (x_))]:Array Value)) (Below n₀) (fun ys=>ys=l) (fun _=>True) l.length w):
  Calls Tryz.prog 112 #[.func (.func gf) #[] lb] w fun e w'=>∃ v,e= .returned v∧Kd.R (Kd.int .i64) 3 w' w.heap.size (fun _=>True) v l∧Below w.heap.size w w':=by
 have HC:=m0 (slices_AppendSeq_int_int.calls_own gf lb eg l n₀ w hn hN hseq);clear hseq hn hN eg;go_enter Tryz.func112,Tryz.ntmps112
 go_wp2_with (first|(go_at_call 138;refine HC.out.mono ?_;rintro e w1 ⟨v,rfl,ho,hb⟩;have HO:=m0 ho;have HB:=m0 hb;clear ho hb))
 go_ret
 exact⟨v,rfl,HO.out,HB.out⟩
end
section
/-- Sorted copies of what an iterator hands on. -/
theorem slices_Sorted_int.own (gf:Nat) (lb:Array Value) (eg:∀ args w,(callFunc gf args).run Tryz.prog w= .ok (.enter gf args) w) (l r:List Int) (w:World) (hN:l.length*8≤140737488355328) (hs:slices_Sort_int_int.f l=some r)
  (hseq:SeqStopsK Fence.wide 8 Tryz.prog gf lb (fun x_:Int=>(#[(.int .i64 (x_))]:Array Value)) (Below w.heap.size) (fun ys=>ys=l) (fun _=>True) l.length w):
  Calls Tryz.prog 94 #[.func (.func gf) #[] lb] w fun e w'=>∃ v0_:Value,e= .returned v0_∧Kd.R (Kd.int .i64) 3 w' w.heap.size (fun _=>True) v0_ r∧Below w.heap.size w w':=by
 have HC:=m0 (slices_Collect_int.calls_own gf lb eg l w.heap.size w (Nat.le_refl _) hN hseq);have HS:=m0 hs;clear hseq hs hN eg;go_enter Tryz.func94,Tryz.ntmps94
 go_wp2_with (first|(go_at_call 112;refine HC.out.mono ?_;rintro e w1 ⟨v,rfl,ho,hb⟩;have HO:=m0 ho;have HB:=m0 hb;clear ho hb)|(go_at_call 81;refine(slices_Sort_int_int.calls (fun _=>True) v l r w _ HB.out HO.out HS.out).mono ?_;rintro e w2 ⟨rfl,ho,hb,hk⟩;have HO2:=m0 ho;have HB2:=m0 hb;clear ho hb hk))
 go_ret
 exact⟨v,rfl,Kd.R_mono HO2.out (fun _ _=>trivial),HB2.out⟩
def L_sorted_prof.f (l:List Int):Option (List Int):=if l.length<17592186044416 then slices_Sort_int_int.f l else none
theorem L_sorted_prof.calls (B:Nat) (A:Option Addr) (c:Nat) (l:List Int) (r:List Int) (w:World) (hbx:w.heap[B]?=some (.cells #[.slice A l.length c] 77 (0,0))) (hr:Kd.C (Kd.int .i64) w A l.length l) (hc:l.length≤c) (h:L_sorted_prof.f l=some r):
  Calls Tryz.prog 94 #[.func (.func 113) #[] #[.pointer (some ⟨B,0,none⟩)]] w fun e w'=>∃ v0_:Value,e= .returned v0_∧Kd.R (Kd.int .i64) 3 w' w.heap.size (fun _=>True) v0_ r∧Below w.heap.size w w':=by
 unfold L_sorted_prof.f at h
 by_cases hl:l.length<17592186044416
 case neg=>rw[if_neg hl]at h;exact absurd h (by simp)
 rw[if_pos hl]at h;exact slices_Sorted_int.own _ _ (enters_of Tryz.func113 (by kernel_rfl) rfl) l r w (by omega) h (L_profile_int.stops 8 (by decide) A c l B w hbx hr)
end
section
def L_profile_cost.l0:Nat→List Int→Int→Int→Int→Option (Int)
 |0,_,_,_,_=>none
 |k+1,x3,x4,x11,x12=>if x12<x11 then(if 0≤x12 then(if x12<(x3.length:Int)then(if(wrap64 (2*x12))<(wrap64 ((x3.length:Int)-1))then(L_profile_cost.l0 k x3 (wrap64 (x4-(rd x3 x12))) x11 (wrap64 (x12+1)))else(if(wrap64 (2*x12))>(wrap64 ((x3.length:Int)-1))then(L_profile_cost.l0 k x3 (wrap64 (x4+(rd x3 x12))) x11 (wrap64 (x12+1)))else(L_profile_cost.l0 k x3 x4 x11 (wrap64 (x12+1)))))else(none))else(none))else(some x4)
def L_profile_cost.f (k:Nat) (l0:List Int):Option (Int):=(L_sorted_prof.f l0).bind fun t156=>(L_profile_cost.l0 k t156 0 (t156.length:Int) 0)
theorem L_profile_cost.mono_l:∀ k,(∀ y0 y1 y2 y3,LeO (L_profile_cost.l0 k y0 y1 y2 y3) (L_profile_cost.l0 (k+1) y0 y1 y2 y3))
 |0=>fun _ _ _ _ r h=>by simp[L_profile_cost.l0]at h
 | k+1=>by
  have ih0:=L_profile_cost.mono_l k
  ·intro y0 y1 y2 y3;unfold L_profile_cost.l0
   exact lz
theorem L_profile_cost.mono:∀ a0 k,LeO (L_profile_cost.f k a0) (L_profile_cost.f (k+1) a0):=by
 intro a0 k;have ih0:=L_profile_cost.mono_l k;unfold L_profile_cost.f
 exact lz
theorem L_profile_cost.calls (k:Nat) (A0:Option Addr) (c0:Nat) (l0:List Int) (r:Int) (w:World) (hr0:Kd.C (Kd.int .i64) w A0 l0.length l0) (hc0:l0.length≤c0) (H:L_profile_cost.f k l0=some r):
  Calls Tryz.prog 72 #[.slice A0 l0.length c0] w fun e w'=>e= .returned (.int .i64 r)∧Below w.heap.size w w':=by
 have HR0:=m0 hr0;have HC0:=m0 hc0;clear hr0 hc0;have HB:=m0 (Below.refl w.heap.size w);unfold L_profile_cost.f at H;replace H:=oa H;obtain⟨t156,A2,H⟩:=H;(try dsimp only at H);have H':=m0 H;clear H;go_enter Tryz.func72,Tryz.ntmps72
 go_wp2_with (first|((with_reducible refine gc 95 rfl ?_);refine goesL_ (some 8) rfl rfl Tryz.func95 (by kernel_rfl) rfl #[.slice A0 l0.length c0] rfl (by(try simp only[List.map_toArray,List.map_cons,List.map_nil]);first|done|rfl) ?_;refine(L_profile_int.calls_own _ _ _ _).mono ?_;rintro e w3 ⟨gb155,hg,rfl,hbox,hb⟩;refine⟨_,rfl,?_⟩;have BK155:=m0 hbox;have GE155:=gw w hg;replace HB:=sb HB hb;clear hb hbox hg)|(go_at_call 94;(with_reducible refine(L_sorted_prof.calls gb155 A0 c0 l0 t156 _ ?side1 ?side2 ?side3 A2.out).mono ?_);(case side1=>exact(bk BK155.out));(case side2=>exact cb HR0 HB);(case side3=>exact HC0.out);rintro e w4 ⟨v157,rfl,ho0,hb⟩;have HO158:=m0 (Kd.R_lower ho0 (below_size bz));replace BK155:=bb BK155 hb;replace HB:=sb HB hb;(try clear hb);(try clear ho0);obtain⟨Ao5,co5,eo5⟩:=Kd.R_slice HO158.out;subst eo5))
 go_loopg [4,12] k (fun kq v4 v12 w'=>∃ (x4_1:Int) (x12_1:Int),v4= .int .i64 x4_1∧v12= .int .i64 x12_1∧Aside0 (L_profile_cost.l0 kq t156 x4_1 (t156.length:Int) x12_1=some r)∧Aside0 (kq≤k)∧Aside0 (Kd.R (Kd.int .i64) 3 w' w.heap.size (fun _=>True) (.slice Ao5 t156.length co5) t156)∧Aside0 (w'.heap[gb155]?=some (.cells #[(.slice A0 l0.length c0)] 77 (0,0)))∧Aside0 (Below w.heap.size w w'))
 case atStart=>exact⟨(0),(0),rz,rz,H',⟨Nat.le_refl _⟩,⟨br HO158.out⟩,⟨bk BK155.out⟩,⟨bz⟩⟩
 case round=>
  clear H';obtain⟨x4_1,x12_1,rfl,rfl,HA,HK1,HO_3,BK155,HB⟩:=hrel
  cases gk with
  |zero=>exact absurd HA.out (by simp[L_profile_cost.l0])
  | succ k1=>
   have H:=HA.out;clear HA;simp only[L_profile_cost.l0]at H
   by_cases c6:x12_1<(t156.length:Int)
   ·rw [if_pos c6]at H;have c6b0:=decide_eq_true c6;clear c6
    by_cases c7:0≤x12_1
    ·rw [if_pos c7]at H;have c7b0:=decide_eq_true c7;clear c7
     by_cases c8:x12_1<(t156.length:Int)
     ·rw [if_pos c8]at H;have c8b0:=decide_eq_true c8;clear c8;have p159:0≤(x12_1:Int):=od;have q159:x12_1<(t156.length:Int):=od;obtain⟨ad159,e159,hx159_0⟩:=Kd.at_int (Kd.R_reads' HO_3.out).2.2 x12_1 p159 q159
      cases e159
      replace p159:=eq_true p159;replace q159:=eq_true q159
      by_cases c9:(wrap64 (2*x12_1))<(wrap64 ((t156.length:Int)-1))
      ·rw [if_pos c9]at H;have c9b0:=decide_eq_true c9;clear c9;have H':=m0 H;clear H
       go_wp2
       go_roundg k1
       case measure=>have:=HK1.out;omega
       case rel=>exact⟨(wrap64 (x4_1-(rd t156 x12_1))),(wrap64 (x12_1+1)),rz,rz,H',⟨by have:=HK1.out;omega⟩,⟨br HO_3.out⟩,⟨bk BK155.out⟩,⟨bz⟩⟩
      ·rw [if_neg c9]at H;have c9b0:=decide_eq_false c9;clear c9
       by_cases c10:(wrap64 (2*x12_1))>(wrap64 ((t156.length:Int)-1))
       ·rw [if_pos c10]at H;have c10b0:=decide_eq_true c10;clear c10;have H':=m0 H;clear H
        go_wp2
        go_roundg k1
        case measure=>have:=HK1.out;omega
        case rel=>exact⟨(wrap64 (x4_1+(rd t156 x12_1))),(wrap64 (x12_1+1)),rz,rz,H',⟨by have:=HK1.out;omega⟩,⟨br HO_3.out⟩,⟨bk BK155.out⟩,⟨bz⟩⟩
       ·rw [if_neg c10]at H;have c10b0:=decide_eq_false c10;clear c10;have H':=m0 H;clear H
        go_wp2
        go_roundg k1
        case measure=>have:=HK1.out;omega
        case rel=>exact⟨(x4_1),(wrap64 (x12_1+1)),rz,rz,H',⟨by have:=HK1.out;omega⟩,⟨br HO_3.out⟩,⟨bk BK155.out⟩,⟨bz⟩⟩
     ·rw [if_neg c8]at H;exact absurd H (by simp)
    ·rw [if_neg c7]at H;exact absurd H (by simp)
   ·rw [if_neg c6]at H;have c6b0:=decide_eq_false c6;clear c6;obtain rfl:=Option.some.inj H
    go_wp2
    go_ret
    exact ez
end
section
def cmp_isNaN_int.f (a0:Int):Option (Bool):=some (a0 != a0)
theorem cmp_isNaN_int.calls (a0:Int) (r:Bool) (w:World) (H:cmp_isNaN_int.f a0=some r):
  Calls Tryz.prog 77 #[.int .i64 a0] w fun e w'=>e= .returned (.bool r)∧Drawn0 w w':=by
 unfold cmp_isNaN_int.f at H;obtain rfl:=Option.some.inj H;go_enter Tryz.func77,Tryz.ntmps77
 go_wp2
 go_ret
 exact⟨rz,dz⟩
end
section
def cmp_Compare_int.f (a0:Int) (a1:Int):Option (Int):=(cmp_isNaN_int.f a0).bind fun t160=>((cmp_isNaN_int.f a1).bind fun t161=>(if t160=true then(if t161=true then(some 0)else(some (-1)))else(if t161=true then(some 1)else(if a0<a1 then(some (-1))else(if a0>a1 then(some 1)else(some 0))))))
theorem cmp_Compare_int.m1 {P:Prop} (h:P:=by
 go_wp2_with (first|((with_reducible refine gc 77 rfl ?_);refine gl (some 8) Tryz.func77 #[.int .i64 a0] ?_;(with_reducible refine(cmp_isNaN_int.calls a0 false _ A3.out).mono ?_);rintro e w' ⟨rfl,⟨nd,rfl⟩⟩;refine⟨_,rfl,?_⟩)|((with_reducible refine gc 77 rfl ?_);refine gl (some 10) Tryz.func77 #[.int .i64 a1] ?_;(with_reducible refine(cmp_isNaN_int.calls a1 false _ A4.out).mono ?_);rintro e w' ⟨rfl,⟨nd,rfl⟩⟩;refine⟨_,rfl,?_⟩))
 go_ret
 exact⟨rz,dz⟩):P:=h
theorem cmp_Compare_int.calls (a0:Int) (a1:Int) (r:Int) (w:World) (H:cmp_Compare_int.f a0 a1=some r):
  Calls Tryz.prog 50 #[.int .i64 a0,.int .i64 a1] w fun e w'=>e= .returned (.int .i64 r)∧Drawn0 w w':=by
 unfold cmp_Compare_int.f at H;replace H:=oa H;obtain⟨t160,A3,H⟩:=H;(try dsimp only at H);replace H:=oa H;obtain⟨t161,A4,H⟩:=H;(try dsimp only at H)
 by_cases c5:t160=true
 ·subst c5;rw[if_pos rfl]at H
  by_cases c6:t161=true
  ·subst c6;rw[if_pos rfl]at H;obtain rfl:=Option.some.inj H;go_enter Tryz.func50,Tryz.ntmps50
   go_wp2_with (first|((with_reducible refine gc 77 rfl ?_);refine gl (some 8) Tryz.func77 #[.int .i64 a0] ?_;(with_reducible refine(cmp_isNaN_int.calls a0 true _ A3.out).mono ?_);rintro e w' ⟨rfl,⟨nd,rfl⟩⟩;refine⟨_,rfl,?_⟩)|((with_reducible refine gc 77 rfl ?_);refine gl (some 10) Tryz.func77 #[.int .i64 a1] ?_;(with_reducible refine(cmp_isNaN_int.calls a1 true _ A4.out).mono ?_);rintro e w' ⟨rfl,⟨nd,rfl⟩⟩;refine⟨_,rfl,?_⟩))
   go_ret
   exact⟨rz,dz⟩
  ·replace c6:=Bool.eq_false_iff.mpr c6;subst c6;rw[if_neg (show ¬ (false=true) by decide)]at H;obtain rfl:=Option.some.inj H;go_enter Tryz.func50,Tryz.ntmps50
   go_wp2_with (first|((with_reducible refine gc 77 rfl ?_);refine gl (some 8) Tryz.func77 #[.int .i64 a0] ?_;(with_reducible refine(cmp_isNaN_int.calls a0 true _ A3.out).mono ?_);rintro e w' ⟨rfl,⟨nd,rfl⟩⟩;refine⟨_,rfl,?_⟩)|((with_reducible refine gc 77 rfl ?_);refine gl (some 10) Tryz.func77 #[.int .i64 a1] ?_;(with_reducible refine(cmp_isNaN_int.calls a1 false _ A4.out).mono ?_);rintro e w' ⟨rfl,⟨nd,rfl⟩⟩;refine⟨_,rfl,?_⟩))
   go_ret
   exact⟨rz,dz⟩
 ·replace c5:=Bool.eq_false_iff.mpr c5;subst c5;rw[if_neg (show ¬ (false=true) by decide)]at H
  by_cases c7:t161=true
  ·subst c7;rw[if_pos rfl]at H;obtain rfl:=Option.some.inj H;go_enter Tryz.func50,Tryz.ntmps50
   go_wp2_with (first|((with_reducible refine gc 77 rfl ?_);refine gl (some 8) Tryz.func77 #[.int .i64 a0] ?_;(with_reducible refine(cmp_isNaN_int.calls a0 false _ A3.out).mono ?_);rintro e w' ⟨rfl,⟨nd,rfl⟩⟩;refine⟨_,rfl,?_⟩)|((with_reducible refine gc 77 rfl ?_);refine gl (some 10) Tryz.func77 #[.int .i64 a1] ?_;(with_reducible refine(cmp_isNaN_int.calls a1 true _ A4.out).mono ?_);rintro e w' ⟨rfl,⟨nd,rfl⟩⟩;refine⟨_,rfl,?_⟩))
   go_ret
   exact⟨rz,dz⟩
  ·replace c7:=Bool.eq_false_iff.mpr c7;subst c7;rw[if_neg (show ¬ (false=true) by decide)]at H
   by_cases c8:a0<a1
   ·rw [if_pos c8]at H;have c8b0:=decide_eq_true c8;clear c8;obtain rfl:=Option.some.inj H;go_enter Tryz.func50,Tryz.ntmps50
    exact cmp_Compare_int.m1
   ·rw [if_neg c8]at H;have c8b0:=decide_eq_false c8;clear c8
    by_cases c9:a0>a1
    ·rw [if_pos c9]at H;have c9b0:=decide_eq_true c9;clear c9;obtain rfl:=Option.some.inj H;go_enter Tryz.func50,Tryz.ntmps50
     exact cmp_Compare_int.m1
    ·rw [if_neg c9]at H;have c9b0:=decide_eq_false c9;clear c9;obtain rfl:=Option.some.inj H;go_enter Tryz.func50,Tryz.ntmps50
     exact cmp_Compare_int.m1
end
section
def cmp_Or_int.l0:Nat→Int→List Int→Int→Int→Option (Int)
 |0,_,_,_,_=>none
 |k+1,x3,x6,x7,x8=>if x8<x7 then(if 0≤x8 then(if x8<(x6.length:Int)then(if(rd x6 x8)=x3 then(cmp_Or_int.l0 k x3 x6 x7 (wrap64 (x8+1)))else(some (rd x6 x8)))else(none))else(none))else(some x3)
def cmp_Or_int.f (k:Nat) (l0:List Int):Option (Int):=cmp_Or_int.l0 k 0 l0 (l0.length:Int) 0
theorem cmp_Or_int.mono_l:∀ k,(∀ y0 y1 y2 y3,LeO (cmp_Or_int.l0 k y0 y1 y2 y3) (cmp_Or_int.l0 (k+1) y0 y1 y2 y3))
 |0=>fun _ _ _ _ r h=>by simp[cmp_Or_int.l0]at h
 | k+1=>by
  have ih0:=cmp_Or_int.mono_l k
  ·intro y0 y1 y2 y3;unfold cmp_Or_int.l0
   exact lz
theorem cmp_Or_int.mono:∀ a0 k,LeO (cmp_Or_int.f k a0) (cmp_Or_int.f (k+1) a0):=by
 intro a0 k;have ih0:=cmp_Or_int.mono_l k;unfold cmp_Or_int.f
 exact lz
theorem cmp_Or_int.calls (k:Nat) (A0:Option Addr) (c0:Nat) (l0:List Int) (r:Int) (w:World) (hr0:Kd.C (Kd.int .i64) w A0 l0.length l0) (hc0:l0.length≤c0) (H:cmp_Or_int.f k l0=some r):
  Calls Tryz.prog 96 #[.slice A0 l0.length c0] w fun e w'=>e= .returned (.int .i64 r)∧Drawn0 w w':=by
 have HR0:=m0 hr0;have HC0:=m0 hc0;clear hr0 hc0;unfold cmp_Or_int.f at H;have H':=m0 H;clear H;go_enter Tryz.func96,Tryz.ntmps96
 go_wp2
 go_loopg [8] k (fun kq v8 w'=>∃ (x8_1:Int),v8= .int .i64 x8_1∧Aside0 (cmp_Or_int.l0 kq 0 l0 (l0.length:Int) x8_1=some r)∧Aside0 (kq≤k)∧Drawn0 w w')
 case atStart=>exact⟨(0),rz,H',⟨Nat.le_refl _⟩,dz⟩
 case round=>
  clear H';obtain⟨x8_1,rfl,HA,HK1,⟨m1,rfl⟩⟩:=hrel
  cases gk with
  |zero=>exact absurd HA.out (by simp[cmp_Or_int.l0])
  | succ k1=>
   have H:=HA.out;clear HA;simp only[cmp_Or_int.l0]at H
   by_cases c2:x8_1<(l0.length:Int)
   ·rw [if_pos c2]at H;have c2b0:=decide_eq_true c2;clear c2
    by_cases c3:0≤x8_1
    ·rw [if_pos c3]at H;have c3b0:=decide_eq_true c3;clear c3
     by_cases c4:x8_1<(l0.length:Int)
     ·rw [if_pos c4]at H;have c4b0:=decide_eq_true c4;clear c4;have p162:0≤(x8_1:Int):=od;have q162:x8_1<(l0.length:Int):=od;obtain⟨ad162,e162,hx162_0⟩:=Kd.at_int HR0.out x8_1 p162 q162
      cases e162
      replace p162:=eq_true p162;replace q162:=eq_true q162
      by_cases c5:(rd l0 x8_1)=0
      ·rw [if_pos c5]at H;have c5b0:=beq_iff_eq.mpr c5;have c5b1:=bne_eq_false_iff_eq.mpr c5;clear c5;have H':=m0 H;clear H
       go_wp2
       go_roundg k1
       case measure=>have:=HK1.out;omega
       case rel=>exact⟨(wrap64 (x8_1+1)),rz,H',⟨by have:=HK1.out;omega⟩,dz⟩
      ·rw [if_neg c5]at H;have c5b0:=beq_eq_false_iff_ne.mpr c5;have c5b1:=bne_iff_ne.mpr c5;obtain rfl:=Option.some.inj H
       go_wp2
       go_ret
       exact⟨rz,dz⟩
     ·rw [if_neg c4]at H;exact absurd H (by simp)
    ·rw [if_neg c3]at H;exact absurd H (by simp)
   ·rw [if_neg c2]at H;have c2b0:=decide_eq_false c2;clear c2;obtain rfl:=Option.some.inj H
    go_wp2
    go_ret
    exact⟨rz,dz⟩
end
section
def slices_Compare_int_int.l0:Nat→List Int→List Int→List Int→Int→Int→Option (Int)
 |0,_,_,_,_,_=>none
 |k+1,x0,x1,x9,x10,x11=>if x11<x10 then(if 0≤x11 then(if x11<(x9.length:Int)then(if x11≥(x1.length:Int)then(some 1)else(if x11<(x1.length:Int)then((cmp_Compare_int.f (rd x9 x11) (rd x1 x11)).bind fun t165=>(if t165=0 then(slices_Compare_int_int.l0 k x0 x1 x9 x10 (wrap64 (x11+1)))else(some t165)))else(none)))else(none))else(none))else(if(x0.length:Int)<(x1.length:Int)then(some (-1))else(some 0))
def slices_Compare_int_int.f (k:Nat) (l0:List Int) (l1:List Int):Option (Int):=slices_Compare_int_int.l0 k l0 l1 l0 (l0.length:Int) 0
theorem slices_Compare_int_int.mono_l:∀ k,(∀ y0 y1 y2 y3 y4,LeO (slices_Compare_int_int.l0 k y0 y1 y2 y3 y4) (slices_Compare_int_int.l0 (k+1) y0 y1 y2 y3 y4))
 |0=>fun _ _ _ _ _ r h=>by simp[slices_Compare_int_int.l0]at h
 | k+1=>by
  have ih0:=slices_Compare_int_int.mono_l k
  ·intro y0 y1 y2 y3 y4;unfold slices_Compare_int_int.l0
   exact lz
theorem slices_Compare_int_int.mono:∀ a0 a1 k,LeO (slices_Compare_int_int.f k a0 a1) (slices_Compare_int_int.f (k+1) a0 a1):=by
 intro a0 a1 k;have ih0:=slices_Compare_int_int.mono_l k;unfold slices_Compare_int_int.f
 exact lz
theorem slices_Compare_int_int.calls (k:Nat) (A0:Option Addr) (c0:Nat) (l0:List Int) (A1:Option Addr) (c1:Nat) (l1:List Int) (r:Int) (w:World) (hr0:Kd.C (Kd.int .i64) w A0 l0.length l0) (hc0:l0.length≤c0) (hr1:Kd.C (Kd.int .i64) w A1 l1.length l1) (hc1:l1.length≤c1) (H:slices_Compare_int_int.f k l0 l1=some r):
  Calls Tryz.prog 97 #[.slice A0 l0.length c0,.slice A1 l1.length c1] w fun e w'=>e= .returned (.int .i64 r)∧Drawn0 w w':=by
 have HR0:=m0 hr0;have HC0:=m0 hc0;clear hr0 hc0;have HR1:=m0 hr1;have HC1:=m0 hc1;clear hr1 hc1;unfold slices_Compare_int_int.f at H;have H':=m0 H;clear H;go_enter Tryz.func97,Tryz.ntmps97
 go_wp2
 go_loopg [11] k (fun kq v11 w'=>∃ (x11_1:Int),v11= .int .i64 x11_1∧Aside0 (slices_Compare_int_int.l0 kq l0 l1 l0 (l0.length:Int) x11_1=some r)∧Aside0 (kq≤k)∧Drawn0 w w')
 case atStart=>exact⟨(0),rz,H',⟨Nat.le_refl _⟩,dz⟩
 case round=>
  clear H';obtain⟨x11_1,rfl,HA,HK1,⟨m1,rfl⟩⟩:=hrel
  cases gk with
  |zero=>exact absurd HA.out (by simp[slices_Compare_int_int.l0])
  | succ k1=>
   have H:=HA.out;clear HA;simp only[slices_Compare_int_int.l0]at H
   by_cases c3:x11_1<(l0.length:Int)
   ·rw [if_pos c3]at H;have c3b0:=decide_eq_true c3;clear c3
    by_cases c4:0≤x11_1
    ·rw [if_pos c4]at H;have c4b0:=decide_eq_true c4;clear c4
     by_cases c5:x11_1<(l0.length:Int)
     ·rw [if_pos c5]at H;have c5b0:=decide_eq_true c5;clear c5
      by_cases c6:x11_1≥(l1.length:Int)
      ·rw [if_pos c6]at H;have c6b0:=decide_eq_true c6;clear c6;obtain rfl:=Option.some.inj H;have p163:0≤(x11_1:Int):=od;have q163:x11_1<(l0.length:Int):=od;obtain⟨ad163,e163,hx163_0⟩:=Kd.at_int HR0.out x11_1 p163 q163
       cases e163
       replace p163:=eq_true p163;replace q163:=eq_true q163
       go_wp2
       go_ret
       exact⟨rz,dz⟩
      ·rw [if_neg c6]at H;have c6b0:=decide_eq_false c6;clear c6
       by_cases c7:x11_1<(l1.length:Int)
       ·rw [if_pos c7]at H;have c7b0:=decide_eq_true c7;clear c7;replace H:=oa H;obtain⟨t165,A8,H⟩:=H;(try dsimp only at H);have p163:0≤(x11_1:Int):=od;have q163:x11_1<(l0.length:Int):=od;obtain⟨ad163,e163,hx163_0⟩:=Kd.at_int HR0.out x11_1 p163 q163
        cases e163
        replace p163:=eq_true p163;replace q163:=eq_true q163;have p164:0≤(x11_1:Int):=od;have q164:x11_1<(l1.length:Int):=od;obtain⟨ad164,e164,hx164_0⟩:=Kd.at_int HR1.out x11_1 p164 q164
        cases e164
        replace p164:=eq_true p164;replace q164:=eq_true q164
        by_cases c9:t165=0
        ·rw [if_pos c9]at H;have c9b0:=beq_iff_eq.mpr c9;have c9b1:=bne_eq_false_iff_eq.mpr c9;clear c9;have H':=m0 H;clear H
         go_wp2_with (first|((with_reducible refine gc 50 rfl ?_);refine gl (some 26) Tryz.func50 #[.int .i64 (rd l0 x11_1),.int .i64 (rd l1 x11_1)] ?_;(with_reducible refine(cmp_Compare_int.calls (rd l0 x11_1) (rd l1 x11_1) t165 _ A8.out).mono ?_);rintro e w' ⟨rfl,⟨nd,rfl⟩⟩;refine⟨_,rfl,?_⟩))
         go_roundg k1
         case measure=>have:=HK1.out;omega
         case rel=>exact⟨(wrap64 (x11_1+1)),rz,H',⟨by have:=HK1.out;omega⟩,dz⟩
        ·rw [if_neg c9]at H;have c9b0:=beq_eq_false_iff_ne.mpr c9;have c9b1:=bne_iff_ne.mpr c9;obtain rfl:=Option.some.inj H
         go_wp2_with (first|((with_reducible refine gc 50 rfl ?_);refine gl (some 26) Tryz.func50 #[.int .i64 (rd l0 x11_1),.int .i64 (rd l1 x11_1)] ?_;(with_reducible refine(cmp_Compare_int.calls (rd l0 x11_1) (rd l1 x11_1) t165 _ A8.out).mono ?_);rintro e w' ⟨rfl,⟨nd,rfl⟩⟩;refine⟨_,rfl,?_⟩))
         go_ret
         exact⟨rz,dz⟩
       ·rw [if_neg c7]at H;exact absurd H (by simp)
     ·rw [if_neg c5]at H;exact absurd H (by simp)
    ·rw [if_neg c4]at H;exact absurd H (by simp)
   ·rw [if_neg c3]at H;have c3b0:=decide_eq_false c3;clear c3
    by_cases c10:(l0.length:Int)<(l1.length:Int)
    ·rw [if_pos c10]at H;have c10b0:=decide_eq_true c10;have c10b1:decide (l0.length<l1.length)=true:=decide_eq_true (Int.ofNat_lt.mp c10);clear c10;obtain rfl:=Option.some.inj H
     go_wp2
     go_ret
     exact⟨rz,dz⟩
    ·rw [if_neg c10]at H;have c10b0:=decide_eq_false c10;have c10b1:decide (l0.length<l1.length)=false:=decide_eq_false (fun h=>c10 (Int.ofNat_lt.mpr h));clear c10;obtain rfl:=Option.some.inj H
     go_wp2
     go_ret
     exact⟨rz,dz⟩
end
section
def L_division_compare.f (k:Nat) (a0_0:Int) (l0_1:List Int) (a1_0:Int) (l1_1:List Int):Option (Int):=(cmp_Compare_int.f a0_0 a1_0).bind fun t168=>((cmp_Compare_int.f (l0_1.length:Int) (l1_1.length:Int)).bind fun t169=>((slices_Compare_int_int.f k l0_1 l1_1).bind fun t170=>((cmp_Or_int.f k (([t168,t169,t170]:List Int))).bind fun t174=>(some t174))))
theorem L_division_compare.mono:∀ a0 a1 a2 a3 k,LeO (L_division_compare.f k a0 a1 a2 a3) (L_division_compare.f (k+1) a0 a1 a2 a3):=by
 intro a0 a1 a2 a3 k;unfold L_division_compare.f
 have m1:=@cmp_Or_int.mono;have m2:=@slices_Compare_int_int.mono;exact lz
def L_division_compare.T1:Bool×List (List Nat×List Nat):=(true,[([],[]),([0],[0]),([],[]),([2],[2]),([1,3],[1,3]),([],[]),([5],[5]),([6],[6]),([],[]),([8],[8]),([9],[9]),([7,10,4],[7,10]),([],[]),([12],[12]),([],[]),([14],[14]),([13,15,11],[13,15]),([4,11,16],[4,11,16]),([17,16],[17]),([18,18,0,1,2,3,4,5,6,7,8,9,10,11,12,13,14,15,16,17,18],[18])])
def L_division_compare.B1:List Nat:=[0,1,0,4,15,0,32,96,0,256,768,2047,0,4096,0,16384,65535,131071,262143,524287]
theorem L_division_compare.tab1:rtab .any (opsOf Tryz.f73 1)=L_division_compare.T1:=by kernel_rfl
theorem L_division_compare.bits1:waitsOk L_division_compare.T1.2 L_division_compare.B1=true:=by kernel_rfl
theorem L_division_compare.calls (k:Nat) (a0_0:Int) (A0_1:Option Addr) (c0_1:Nat) (l0_1:List Int) (a1_0:Int) (A1_1:Option Addr) (c1_1:Nat) (l1_1:List Int) (r:Int) (w:World) (hr0_1:Kd.C (Kd.int .i64) w A0_1 l0_1.length l0_1) (hc0_1:l0_1.length≤c0_1) (hr1_1:Kd.C (Kd.int .i64) w A1_1 l1_1.length l1_1) (hc1_1:l1_1.length≤c1_1) (H:L_division_compare.f k a0_0 l0_1 a1_0 l1_1=some r):
  Calls Tryz.prog 73 #[.agg #[.int .i64 a0_0,.slice A0_1 l0_1.length c0_1],.agg #[.int .i64 a1_0,.slice A1_1 l1_1.length c1_1]] w fun e w'=>e= .returned (.int .i64 r)∧Below w.heap.size w w':=by
 have hu85:=Tryz.underlying85;have HR0_1:=m0 hr0_1;have HC0_1:=m0 hc0_1;clear hr0_1 hc0_1;have HR1_1:=m0 hr1_1;have HC1_1:=m0 hc1_1;clear hr1_1 hc1_1;have HB:=m0 (Below.refl w.heap.size w);unfold L_division_compare.f at H;replace H:=oa H;obtain⟨t168,A3,H⟩:=H;(try dsimp only at H);replace H:=oa H;obtain⟨t169,A4,H⟩:=H;(try dsimp only at H);replace H:=oa H;obtain⟨t170,A5,H⟩:=H;(try dsimp only at H);obtain⟨y171,hy171⟩:∃ y_:List Int,y_=(([t168,t169,t170]:List Int)):=⟨_,rfl⟩;replace H:((cmp_Or_int.f k y171).bind fun t174=>(some t174))=some r:=hq hy171 H
 have Ny171:=m0 hy171;clear hy171;replace H:=oa H;obtain⟨t174,A6,H⟩:=H;(try dsimp only at H);obtain rfl:=Option.some.inj H;go_enter Tryz.func73,Tryz.ntmps73
 try go_wp2_with (first|((with_reducible refine ga 2 rfl ?_);refine be 2 85 #[.int .i64 a0_0,.slice A0_1 l0_1.length c0_1] ?_;intro gb166 hg w7 hbox hb;have BK166:=m0 hbox;have GE166:=gw w hg;replace HB:=sb HB hb;clear hb hbox hg)|((with_reducible refine ga 3 rfl ?_);refine be 3 85 #[.int .i64 a1_0,.slice A1_1 l1_1.length c1_1] ?_;intro gb167 hg w8 hbox hb;have BK167:=m0 hbox;have GE167:=gw w hg;replace HB:=sb HB hb;have NB166_167:=nl BK166 hg;have NB167_166:=ng (nl BK166 hg);replace BK166:=bb BK166 hb;clear hb hbox hg))
 replace BK166:=bd BK166;replace BK167:=bd BK167;replace HB:=sd HB;refine start_ (n:=20) (S:=fun w'=>w'.cell? ⟨gb166,0,none⟩=some (.int .i64 a0_0)∧w'.cell? ⟨gb166,1,none⟩=some (.slice A0_1 l0_1.length c0_1)∧w'.cell? ⟨gb167,0,none⟩=some (.int .i64 a1_0)∧w'.cell? ⟨gb167,1,none⟩=some (.slice A1_1 l1_1.length c1_1)) (ds:=[]) _ (by kernel_rfl) rfl rfl cz (fun hH=>?_);refine with_tabW L_division_compare.tab1 L_division_compare.bits1 (fun HT_ HW_=>?_);generalize w8.drew=w9 at BK166 BK167 HB hH ⊢;refine pZ 0 (some 5) (bs 20 1) HT_ ?_;refine pZ 2 (some 7) (bs 20 5) HT_ ?_;refine pZ 5 (some 10) (bs 20 37) HT_ ?_;refine pZ 8 (some 13) (bs 20 293) HT_ ?_;refine pZ 12 (some 17) (bs 20 4389) HT_ ?_;refine pZ 14 (some 19) (bs 20 20773) HT_ ?_;refine takeZ 1 (some 6) (bs 20 20775) (tw HT_ HW_) hH ?_;refine takeZ 3 (some 8) (bs 20 20783) (tw HT_ HW_) hH ?_;refine takeZ 6 (some 11) (bs 20 20847) (tw HT_ HW_) hH ?_;refine pZ 7 (some 12) (bs 20 20975) HT_ ?_;refine takeZ 9 (some 14) (bs 20 21487) (tw HT_ HW_) hH ?_;refine pZ 10 (some 15) (bs 20 22511) HT_ ?_;refine takeZ 13 (some 18) (bs 20 30703) (tw HT_ HW_) hH ?_;refine takeZ 15 (some 20) (bs 20 63471) (tw HT_ HW_) hH ?_;refine oneZ 4 (some 9) (bs 20 63487) (o1 HT_) fun K hK=>?_;refine gz Tryz.func50 #[.int .i64 a0_0,.int .i64 a1_0] ?_
 with_reducible refine(cmp_Compare_int.calls a0_0 a1_0 t168 _ A3.out).mono ?_
 rintro e w' ⟨rfl,⟨nd,rfl⟩⟩;refine⟨_,rfl,?_⟩;refine hK.out _ _ cz (fun hH=>?_);clear hK K;refine nz 9 ?_;refine oneZ 11 (some 16) (bs 20 65535) (o1 HT_) fun K hK=>?_;refine gz Tryz.func50 #[.int .i64 (l0_1.length:Int),.int .i64 (l1_1.length:Int)] ?_
 with_reducible refine(cmp_Compare_int.calls (l0_1.length:Int) (l1_1.length:Int) t169 _ A4.out).mono ?_
 rintro e w' ⟨rfl,⟨nd,rfl⟩⟩;refine⟨_,rfl,?_⟩;refine hK.out _ _ cz (fun hH=>?_);clear hK K;refine nz 16 ?_;refine oneZ 16 (some 21) (bs 20 131071) (o1 HT_) fun K hK=>?_;refine gz Tryz.func97 #[.slice A0_1 l0_1.length c0_1,.slice A1_1 l1_1.length c1_1] ?_
 with_reducible refine(slices_Compare_int_int.calls k _ _ l0_1 _ _ l1_1 t170 _ ?side1 ?side2 ?side3 ?side4 A5.out).mono ?_
 (case side1=>exact cd (Kd.C_below HR0_1.out bz))
 (case side2=>exact HC0_1.out)
 (case side3=>exact cd (Kd.C_below HR1_1.out bz))
 (case side4=>exact HC1_1.out)
 rintro e w' ⟨rfl,⟨nd,rfl⟩⟩;refine⟨_,rfl,?_⟩;refine hK.out _ _ cz (fun hH=>?_);clear hK K;refine nz 21 ?_;refine oneZ 17 (some 22) (bs 20 262143) (o1 HT_) fun K hK=>?_;refine Kd.R_lit_step (Kd.int .i64) _ 3 ?hg (N:=22) ?hd (xs:=([t168,t169,t170]:List Int)) (inner:=[.int .i64 t168,.int .i64 t169,.int .i64 t170]) (ok:=fun _=>True) (okp:=fun _=>True) ?hr ?hp (fun _ hk=>hk) trivial (Below.refl _ _) (Nat.le_refl _) (by simp) ?_;(case hd=>rfl);(case hg=>rfl);(case hr=>first|(go_simp;done)|(go_simp;rfl));(case hp=>exact(Reps.one (ki t168) (Reps.one (ki t169) (Reps.one (ki t170) (Reps.none _ _)))))
 intro v172 w10 ho11 hb hg_ hnew_;clear hg_ hnew_
 (first|rw[← Ny171.out]at ho11|(simp only[Int.reduceToNat]at ho11;rw[← Ny171.out]at ho11))
 have HO173:=m0 (Kd.R_lower ho11 (below_size bz));replace BK166:=bb BK166 hb;replace BK167:=bb BK167 hb;replace HB:=sb HB hb;clear hb ho11;obtain⟨Ao12,co12,eo12⟩:=Kd.R_slice HO173.out;subst eo12;refine hK.out _ _ cz (fun hH=>?_);clear hK K;refine nz 22 ?_;refine oneZ 18 (some 23) (bs 20 524287) (o1 HT_) fun K hK=>?_;refine gz Tryz.func96 #[.slice Ao12 y171.length co12] ?_
 with_reducible refine(cmp_Or_int.calls k _ _ y171 t174 _ ?side1 ?side2 A6.out).mono ?_
 (case side1=>exact bc (Kd.R_reads' HO173.out).2.2)
 (case side2=>exact(Kd.R_reads' HO173.out).2.1)
 rintro e w' ⟨rfl,⟨nd,rfl⟩⟩;refine⟨_,rfl,?_⟩;refine hK.out _ _ cz (fun hH=>?_);clear hK K;refine nz 23 ?_;refine pZ 19 (some 4) (bs 20 1048575) HT_ ?_;refine done_ (done_of HT_.out (by kernel_rfl)) ?_
 try go_wp2
 go_ret
 exact ez
end
end Go.Proofs.YteiafijbgjgiaaaGreatDoor.A
