/- Walks of the program's functions (printed, made shorter), each with what it computes. -/
import Derived.Test.YteiafijbgjgiaaaGreatDoorS12
import Derived.Test.YteiafijbgjgiaaaGreatDoorS20
import Derived.Test.YteiafijbgjgiaaaGreatDoorS21
namespace Go.Proofs.YteiafijbgjgiaaaGreatDoor.A
set_option maxHeartbeats 8000000
set_option maxRecDepth 100000
open Go.RowKit Go.Proofs.YteiafijbgjgiaaaGreatDoorW.PrintWords Go.Proofs.YteiafijbgjgiaaaGreatDoorW.PrintLast Go.Proofs.YteiafijbgjgiaaaGreatDoorW.PrintMore
attribute [local go_sem] max2_int min2_int max_two min_two max_three min_three max_four min_four
set_option linter.unusedVariables false
set_option linter.unusedSimpArgs false
section
def L_ParseLayers.one (b:List UInt8):Option S64:=match L_parsed.f ⟨b.toArray⟩with|some (l,true)=>if l.length=3 then some ⟨rd l 0,rd l 1,rd l 2⟩else none|_=>none
def L_ParseLayers.pars (fr:List (List UInt8)):Nat→Option (List S64)
 |0=>some []
 |j+1=>(L_ParseLayers.pars fr j).bind fun acc=>((fr[j]?).bind L_ParseLayers.one).map fun v=>acc++ [v]
def L_ParseLayers.f (k:Nat) (a0:ByteArray):Option (List S64×Int):=if a0.size≤60000 then(if a0.size=0 then some ([],0)else match L_ParseLayers.pars (cutB 59 a0.data.toList) (cutB 59 a0.data.toList).length with|some l=>(L_CheckLayers.f k l).bind fun e=>if e.2=0 then some (l,0)else some ([],e.2)|none=>some ([],7))else some ([],8)
theorem L_ParseLayers.mono:∀ a0 k,LeO (L_ParseLayers.f k a0) (L_ParseLayers.f (k+1) a0):=by
 intro a0 k;unfold L_ParseLayers.f;refine LeO.ite (LeO.ite (LeO.refl _) ?_) (LeO.refl _)
 split
 ·exact LeO.bind (L_CheckLayers.mono _ _) (fun _=>LeO.refl _)
 ·exact LeO.refl _
theorem L_ParseLayers.pars_len (fr:List (List UInt8)):∀ (j:Nat) (acc:List S64),L_ParseLayers.pars fr j=some acc→acc.length=j
 |0,acc,h=>by simp only[L_ParseLayers.pars,Option.some.injEq]at h;subst h;rfl
 |j+1,acc,h=>by
  simp only[L_ParseLayers.pars]at h;obtain⟨a,ha,h⟩:=Option.bind_eq_some_iff.mp h;obtain⟨v,_,rfl⟩:=Option.map_eq_some_iff.mp h;have:=L_ParseLayers.pars_len fr j a ha
  simp[this]
theorem L_ParseLayers.pars_none (fr:List (List UInt8)) {j:Nat} (h:L_ParseLayers.pars fr j=none):∀ m,L_ParseLayers.pars fr (j+m)=none
 |0=>h
 |m+1=>by
  show L_ParseLayers.pars fr (j+m+1)=none
  simp only[L_ParseLayers.pars];rw[L_ParseLayers.pars_none fr h m];rfl
def L_ParseLayers.I (w:World) (fr:List (List UInt8)) (j:Nat) (W:World):Prop:=∃ (pre:List S64) (v:Value) (cs:List Value),L_ParseLayers.pars fr j=some pre∧W.heap[w.heap.size+1+1]?=some (.cells #[v] 23 (0,0))∧W.ownsRow (w.heap.size+6) 64 3 v pre.length cs∧(∀ (U:World) (ok:Nat→Prop),Reps (k64.M U w.heap.size ok) 3 pre cs)∧W.heap[w.heap.size]?=some (.cells #[.slice none 0 0] 23 (0,0))∧W.heap[w.heap.size+1]?=some (.cells #[.int .i64 0] 30 (0,0))∧w.heap.size+6≤W.heap.size
def L_ParseLayers.T11:Bool×List (List Nat×List Nat):=(true,[([],[]),([],[]),([1],[1]),([2],[2]),([],[]),([4],[4]),([5],[5]),([],[]),([7],[7]),([8],[8]),([3,6,9],[3,6,9]),([10],[10]),([0,11],[0,11]),([12,12,0,1,2,3,4,5,6,7,8,9,10,11,12],[12])])
def L_ParseLayers.B11:List Nat:=[0,0,2,6,0,16,48,0,128,384,1022,2046,4095,8191]
theorem L_ParseLayers.tab11:rtab .any (opsOf Tryz.f11 11)=L_ParseLayers.T11:=by kernel_rfl
theorem L_ParseLayers.bits11:waitsOk L_ParseLayers.T11.2 L_ParseLayers.B11=true:=by kernel_rfl
attribute [local go_sem] Oper.semAt_some
theorem L_ParseLayers.calls (k:Nat) (a0:ByteArray) (r1:List S64) (r2:Int) (w:World) (hG:EstG w) (h:L_ParseLayers.f k a0=some (r1,r2)):
  Calls Tryz.prog 11 #[.string a0] w fun e w'=>∃ v0_:Value,e= .returned (.tuple #[v0_,.int .i64 r2])∧Kd.R k64 64 w' w.heap.size (fun _=>True) v0_ r1∧Below w.heap.size w w':=by
 unfold L_ParseLayers.f at h;refine(callsIn_wide (n:=9)).1 ?_;refine callsIn_of_wp_marks Tryz.func11 rfl trivial ?_ rfl;simp only[Tryz.ntmps11,List.size_toArray,List.length_cons,List.length_nil,Nat.reduceAdd,Nat.reduceSub,Array.replicate_succ,Array.replicate_zero,List.push_toArray,List.append_toArray,List.nil_append,List.cons_append]
 by_cases hsz:a0.size≤60000
 case neg=>
  rw[if_neg hsz]at h;obtain⟨rfl,rfl⟩:=Prod.mk.inj (Option.some.inj h);have hsz2:¬ (a0.size:Int)≤60000:=by omega
  gi_wp2
  have e0:((w.alloc (.cells #[.slice none 0 0] 23)).alloc (.cells #[.int .i64 8] 30)).heap[w.heap.size]?=some (.cells #[.slice none 0 0] 23 (0,0)):=by
   (iterate 1 apply blk_alloc)
   have:=blk_new w (.cells #[.slice none 0 0] 23 (0,0));simpa using this
  have e1:((w.alloc (.cells #[.slice none 0 0] 23)).alloc (.cells #[.int .i64 8] 30)).heap[w.heap.size+1]?=some (.cells #[.int .i64 8] 30 (0,0)):=by
   have:=blk_new (w.alloc (.cells #[.slice none 0 0] 23)) (.cells #[.int .i64 8] 30 (0,0));simpa using this
  exact⟨_,results_11 rfl _ _ w.heap.size (w.heap.size+1) 23 30 #[.slice none 0 0] #[.int .i64 8] (0,0) (0,0) _ _ rfl e0 Tryz.underlying23 rfl (by kernel_rfl) rfl e1 Tryz.underlying30 rfl (by kernel_rfl),_,rfl,Kd.R_nil _ _ _ _ _,by repeat(first|exact Below.refl _ _|apply below_alloc)⟩
 rw[if_pos hsz]at h;have hsz2:(a0.size:Int)≤60000:=by omega
 by_cases h0:a0.size=0
 ·rw [if_pos h0]at h;obtain⟨rfl,rfl⟩:=Prod.mk.inj (Option.some.inj h);obtain rfl:a0=⟨#[]⟩:=by
   apply ByteArray.ext
   exact Array.eq_empty_of_size_eq_zero h0
  gi_wp2
  have e0:(((w.alloc (.cells #[.slice none 0 0] 23)).alloc (.cells #[.int .i64 0] 30)).alloc (.cells #[.slice none 0 0] 23)).heap[w.heap.size]?=some (.cells #[.slice none 0 0] 23 (0,0)):=by
   (iterate 2 apply blk_alloc)
   have:=blk_new w (.cells #[.slice none 0 0] 23 (0,0));simpa using this
  have e1:(((w.alloc (.cells #[.slice none 0 0] 23)).alloc (.cells #[.int .i64 0] 30)).alloc (.cells #[.slice none 0 0] 23)).heap[w.heap.size+1]?=some (.cells #[.int .i64 0] 30 (0,0)):=by
   (iterate 1 apply blk_alloc)
   have:=blk_new (w.alloc (.cells #[.slice none 0 0] 23)) (.cells #[.int .i64 0] 30 (0,0));simpa using this
  exact⟨_,results_11 rfl _ _ w.heap.size (w.heap.size+1) 23 30 #[.slice none 0 0] #[.int .i64 0] (0,0) (0,0) _ _ rfl e0 Tryz.underlying23 rfl (by kernel_rfl) rfl e1 Tryz.underlying30 rfl (by kernel_rfl),_,rfl,Kd.R_nil _ _ _ _ _,by repeat(first|exact Below.refl _ _|apply below_alloc)⟩
 rw[if_neg h0]at h;have hne:a0.toList.isEmpty=false:=toList_some a0 h0
 gi_wp2_with (first|(refine⟨trivial,?_⟩;gi_at_call 32;refine(callsIn_wide.2 (strings_SplitSeq.calls_own a0 ⟨#[59]⟩ _)).mono ?_;rintro e w' ⟨rfl,rfl⟩))
 obtain⟨fr,hfr⟩:∃ fr,cutB 59 a0.data.toList=fr:=⟨_,rfl⟩;have hdl:a0.data.toList.length=a0.size:=Array.length_toList;have hfl:fr.length≤60001:=by rw[← hfr];have:=cutB_len 59 a0.data.toList;omega
 have hbl:∀ (j:Nat) b,fr[j]?=some b→b.length≤60000:=by
  intro j b hj;rw[← hfr]at hj;have h1:=cutB_mem 59 _ b (List.mem_of_getElem? hj)
  omega
 rw[hfr]at h;have HBL:=m0 hbl;have HRES:=m0 h;have HG:=m0 hG;have HFL:=m0 hfl;clear h hG hfl hbl hdl hne hsz2 h0;obtain⟨W0,hW0⟩:∃ W0,((((((w.alloc (.cells #[.slice none 0 0] 23)).alloc (.cells #[.int .i64 0] 30)).alloc (.cells #[.slice none 0 0] 23)).alloc (.cells #[.string a0] 9)).alloc (.cells #[.string ⟨#[59]⟩] 9)).alloc (.cells #[.int .i64 0] 3))=W0:=⟨_,rfl⟩;have hz:W0.heap.size=w.heap.size+6:=by rw[← hW0];simp
 have hb0:Below w.heap.size w W0:=by rw[← hW0];repeat(first|exact Below.refl _ _|apply below_alloc)
 have k0:W0.heap[w.heap.size]?=some (.cells #[.slice none 0 0] 23 (0,0)):=by
  rw[← hW0];(iterate 5 apply blk_alloc);have:=blk_new w (.cells #[.slice none 0 0] 23 (0,0));simpa using this
 have k1:W0.heap[w.heap.size+1]?=some (.cells #[.int .i64 0] 30 (0,0)):=by
  rw[← hW0];(iterate 4 apply blk_alloc);have:=blk_new (w.alloc (.cells #[.slice none 0 0] 23)) (.cells #[.int .i64 0] 30 (0,0));simpa using this
 have k2:W0.heap[w.heap.size+1+1]?=some (.cells #[.slice none 0 0] 23 (0,0)):=by
  rw[← hW0];(iterate 3 apply blk_alloc);have:=blk_new ((w.alloc (.cells #[.slice none 0 0] 23)).alloc (.cells #[.int .i64 0] 30)) (.cells #[.slice none 0 0] 23 (0,0));simpa using this
 have k3:W0.heap[w.heap.size+1+1+1]?=some (.cells #[.string a0] 9 (0,0)):=by
  rw[← hW0];(iterate 2 apply blk_alloc);have:=blk_new (((w.alloc (.cells #[.slice none 0 0] 23)).alloc (.cells #[.int .i64 0] 30)).alloc (.cells #[.slice none 0 0] 23)) (.cells #[.string a0] 9 (0,0));simpa using this
 have k4:W0.heap[w.heap.size+1+1+1+1]?=some (.cells #[.string ⟨#[59]⟩] 9 (0,0)):=by
  rw[← hW0];(iterate 1 apply blk_alloc);have:=blk_new ((((w.alloc (.cells #[.slice none 0 0] 23)).alloc (.cells #[.int .i64 0] 30)).alloc (.cells #[.slice none 0 0] 23)).alloc (.cells #[.string a0] 9)) (.cells #[.string ⟨#[59]⟩] 9 (0,0));simpa using this
 have k5:W0.heap[w.heap.size+1+1+1+1+1]?=some (.cells #[.int .i64 0] 3 (0,0)):=by
  rw[← hW0];skip;have:=blk_new (((((w.alloc (.cells #[.slice none 0 0] 23)).alloc (.cells #[.int .i64 0] 30)).alloc (.cells #[.slice none 0 0] 23)).alloc (.cells #[.string a0] 9)).alloc (.cells #[.string ⟨#[59]⟩] 9)) (.cells #[.int .i64 0] 3 (0,0));simpa using this
 rw[hW0];clear hW0;have hY:=strings_SplitSeq.yields 8 (by decide) 59 a0 (by omega) w.heap.size (w.heap.size+1+1+1+1) (w.heap.size+1+1+1) (w.heap.size+1+1+1+1+1) W0 (by omega) (by omega) (by omega) k4 k3 k5;rw[hfr]at hY;have HY:=m0 hY;have HZ:=m0 hz;clear hY hfr;refine wpIn_rangeB (n:=9) rfl (by decide) (gf:=89) (lb:= #[.pointer (some ⟨w.heap.size+1+1+1+1,0,none⟩),.pointer (some ⟨w.heap.size+1+1+1,0,none⟩),.pointer (some ⟨w.heap.size+1+1+1+1+1,0,none⟩)]) rfl trivial (enters_of Tryz.func89 (by kernel_rfl) rfl) HY.out
  (fun _ _ _ _ _ _ _ _ h=>h) (fun h k=>h.trans k) (fun W l o o' hl h hc hw=>strings_SplitSeq.Kp_putObj (w:=W0) (by omega) (by omega) (by omega) (by omega) W l o o' hl h hc hw) (Below.refl _ _) (fun _ _=>rfl)
  (fun j W=>L_ParseLayers.I w fr j W∧Below w.heap.size w W)
  (fun cd _ W=>(cd=Code.ret∧L_ParseLayers.pars fr fr.length=none∧W.heap[w.heap.size]?=some (.cells #[.slice none 0 0] 23 (0,0))∧W.heap[w.heap.size+1]?=some (.cells #[.int .i64 7] 30 (0,0)))∧Below w.heap.size w W)
  (fun j W v u ⟨⟨pre,v',cs,h1,h2,h3,h4,h5,h6,h7⟩,hB⟩ hs=>⟨⟨pre,v',cs,h1,(Below.heap_setCell W ⟨w.heap.size+1+1+1,0,none⟩ v _ (show w.heap.size+1+1≠w.heap.size+1+1+1 by omega)).trans h2,row_far_ v h3 hs (by decide),h4,(Below.heap_setCell W ⟨w.heap.size+1+1+1,0,none⟩ v _ (show w.heap.size≠w.heap.size+1+1+1 by omega)).trans h5,(Below.heap_setCell W ⟨w.heap.size+1+1+1,0,none⟩ v _ (show w.heap.size+1≠w.heap.size+1+1+1 by omega)).trans h6,by simpa [World.setCell]using h7⟩,hB.setCell (p:=⟨w.heap.size+1+1+1,0,none⟩) (show w.heap.size≤w.heap.size+1+1+1 by omega) v⟩)
  (fun cd j W v u ⟨⟨h1,h2,h5,h6⟩,hB⟩ hs=>⟨⟨h1,h2,(Below.heap_setCell W ⟨w.heap.size+1+1+1,0,none⟩ v _ (show w.heap.size≠w.heap.size+1+1+1 by omega)).trans h5,(Below.heap_setCell W ⟨w.heap.size+1+1+1,0,none⟩ v _ (show w.heap.size+1≠w.heap.size+1+1+1 by omega)).trans h6⟩,hB.setCell (p:=⟨w.heap.size+1+1+1,0,none⟩) (show w.heap.size≤w.heap.size+1+1+1 by omega) v⟩)
  (OwnFrom.and (fun j A B row hs hg hr=>by
   obtain⟨pre,v,cs,h1,h2,h3,h4,h5,h6,h7⟩:=hs;exact⟨pre,v,cs,h1,blk_own_ h2 hg hr,row_turned_ h3 hg (fun r e=>(hr r e).2),h4,blk_own_ h5 hg hr,blk_own_ h6 hg hr,Nat.le_trans h7 hg.size⟩) (ownFrom_below (Nat.le_refl _) (by omega)))
  (fun cd=>OwnFrom.and (fun j A B row hs hg hr=>by
   obtain⟨h1,h2,h3,h4⟩:=hs;exact⟨h1,h2,blk_own_ h3 hg hr,blk_own_ h4 hg hr⟩) (ownFrom_below (Nat.le_refl _) (by omega)))
  ⟨⟨[],.slice none 0 0,[],rfl,k2,⟨rfl,.inl ⟨rfl,rfl⟩⟩,fun _ _=>Reps.none _ _,k0,k1,by omega⟩,hb0⟩ ?round ?done ?stop
 case stop=>
  rintro D c j W hD hj ⟨⟨rfl,hne,h5,h6⟩,hB⟩ hK;have hres:=HRES.out;rw[hne]at hres;obtain⟨rfl,rfl⟩:=Prod.mk.inj (Option.some.inj hres);clear hres
  gi_wp2
  refine⟨by simp,.inl ⟨_,_,rfl,run_takeDeferred hK,?_⟩⟩;exact⟨_,results_11 rfl _ _ w.heap.size (w.heap.size+1) 23 30 #[.slice none 0 0] #[.int .i64 7] (0,0) (0,0) _ _ rfl ((World.putObj_heap_other (show w.heap.size≠D by omega)).trans h5) Tryz.underlying23 rfl (by kernel_rfl) rfl ((World.putObj_heap_other (show w.heap.size+1≠D by omega)).trans h6) Tryz.underlying30 rfl (by kernel_rfl),_,rfl,Kd.R_nil _ _ _ _ _,hB.trans (belowK_b (w:=w) (Nat.le_refl _) _ D _ _ (by omega) hK rfl rfl)⟩
 case done=>
  rintro D W hD ⟨⟨pre,v,cs,h1,h2,h3,h4,h5,h6,h7⟩,hB⟩ hK;have hres:=HRES.out;rw[h1]at hres;obtain⟨⟨e1,e2⟩,hcl,hres⟩:=Option.bind_eq_some_iff.mp hres;have hR:Kd.R k64 64 W (w.heap.size+6) (fun _=>True) v pre:=⟨fun _ _=>trivial,cs,h3,h4 W (fun _=>True)⟩;obtain⟨Av,cv,ev⟩:=Kd.R_slice hR;subst ev;have c2:W.cell? ⟨w.heap.size+1+1,0,none⟩=some (.slice Av pre.length cv):=(blk_cell h2 0).trans rfl;have H2:=m0 h2;have H3:=m0 h3;have H4:=m0 h4;have H5:=m0 h5;have H6:=m0 h6;have HBB:=m0 hB;have HR:=m0 hR;have HCL:=m0 hcl;have HRES2:=m0 hres;clear h2 h3 h4 h5 h6 hB hR hcl hres
  gi_wp2
  refine⟨trivial,?_⟩;refine(callsIn_wide.2 (L_CheckLayers.calls k Av cv pre e1 e2 W (Kd.R_reads' HR.out).2.2 (Kd.R_reads' HR.out).2.1 HCL.out)).mono ?_;rintro e w5 ⟨rfl,hb5⟩;have HB5:=m0 hb5;have q0:=blk_below H5.out hb5;have q1:=blk_below H6.out hb5;have q2:=blk_below H2.out hb5;have hK5:w5.heap[D]?=some (.deferred (some [])):=(hb5.block D (Array.getElem?_eq_some_iff.1 hK).1).trans hK;have c0:w5.cell? ⟨w.heap.size,0,none⟩=some (.slice none 0 0):=(blk_cell q0 0).trans rfl;have c1:w5.cell? ⟨w.heap.size+1,0,none⟩=some (.int .i64 0):=(blk_cell q1 0).trans rfl;have c2':w5.cell? ⟨w.heap.size+1+1,0,none⟩=some (.slice Av pre.length cv):=(blk_cell q2 0).trans rfl;have f0:=blk_frozen q0 0;have f1:=blk_frozen q1 0;have n01:w.heap.size≠w.heap.size+1:=by omega
  have n02:w.heap.size+1+1≠w.heap.size:=by omega
  have Q0:=m0 q0;have Q1:=m0 q1;clear hb5 q0 q1 q2 c2;have n1D:w.heap.size≠D∧w.heap.size+1≠D:=by omega
  by_cases he:e2=0
  ·have hres:=HRES2.out;rw[if_pos he]at hres;obtain⟨rfl,rfl⟩:=Prod.mk.inj (Option.some.inj hres);have he1:(e2==0)=true:=beq_iff_eq.mpr he;subst he;clear hres
   gi_wp2
   have hK2:((w5.setCell ⟨w.heap.size,0,none⟩ (.slice Av pre.length cv)).setCell ⟨w.heap.size+1,0,none⟩ (.int .i64 0)).heap[D]?=some (.deferred (some [])):=(Below.heap_setCell _ _ _ _ (Ne.symm n1D.2)).trans ((Below.heap_setCell _ _ _ _ (Ne.symm n1D.1)).trans hK5);have q0:((w5.setCell ⟨w.heap.size,0,none⟩ (.slice Av pre.length cv)).setCell ⟨w.heap.size+1,0,none⟩ (.int .i64 0)).heap[w.heap.size]?=some (.cells #[.slice Av pre.length cv] 23 (0,0)):=(Below.heap_setCell _ _ _ _ (show w.heap.size≠w.heap.size+1 by omega)).trans (blk_put Q0.out 0 _ rfl);have q1:(w5.setCell ⟨w.heap.size,0,none⟩ (.slice Av pre.length cv)).heap[w.heap.size+1]?=some (.cells #[.int .i64 0] 30 (0,0)):=(Below.heap_setCell _ _ _ _ (show w.heap.size+1≠w.heap.size by omega)).trans Q1.out;have hgD:=grownBy_putObj' ((w5.setCell ⟨w.heap.size,0,none⟩ (.slice Av pre.length cv)).setCell ⟨w.heap.size+1,0,none⟩ (.int .i64 0)) D (.deferred none);refine⟨by simp,.inl ⟨_,_,rfl,run_takeDeferred hK2,?_⟩⟩;have hown5:=row_turned_ H3.out (grown_of_below HB5.out none) (fun r e=>by cases e);exact⟨_,results_11 rfl _ _ w.heap.size (w.heap.size+1) 23 30 #[.slice Av pre.length cv] #[.int .i64 0] (0,0) (0,0) _ _ rfl ((World.putObj_heap_other n1D.1).trans q0) Tryz.underlying23 rfl (by kernel_rfl) rfl ((World.putObj_heap_other n1D.2).trans (blk_put q1 0 _ rfl)) Tryz.underlying30 rfl (by kernel_rfl),_,rfl,
    ⟨fun _ _=>trivial,cs,own_base (row_turned_ (row_far_ _ (row_far_ _ hown5 Q0.out (by decide)) q1 (by decide)) hgD (fun r e=>by cases e;exact⟨_,hK2,rfl⟩)) (by omega),H4.out W (fun _=>True)⟩,
    (((HBB.out.trans (HB5.out.mono HBB.out.size)).setCell (p:=⟨w.heap.size,0,none⟩) (Nat.le_refl _) _).setCell (p:=⟨w.heap.size+1,0,none⟩) (Nat.le_succ _) _).trans (belowK_b (w:=w) (Nat.le_refl _) _ D _ _ (by omega) hK2 rfl rfl)⟩
  ·have hres:=HRES2.out;rw[if_neg he]at hres;obtain⟨rfl,rfl⟩:=Prod.mk.inj (Option.some.inj hres);clear hres
   gi_wp2
   have hK2:((w5.setCell ⟨w.heap.size,0,none⟩ (.slice none 0 0)).setCell ⟨w.heap.size+1,0,none⟩ (.int .i64 e2)).heap[D]?=some (.deferred (some [])):=(Below.heap_setCell _ _ _ _ (Ne.symm n1D.2)).trans ((Below.heap_setCell _ _ _ _ (Ne.symm n1D.1)).trans hK5);have q0:((w5.setCell ⟨w.heap.size,0,none⟩ (.slice none 0 0)).setCell ⟨w.heap.size+1,0,none⟩ (.int .i64 e2)).heap[w.heap.size]?=some (.cells #[.slice none 0 0] 23 (0,0)):=(Below.heap_setCell _ _ _ _ (show w.heap.size≠w.heap.size+1 by omega)).trans (blk_put Q0.out 0 _ rfl);have q1:(w5.setCell ⟨w.heap.size,0,none⟩ (.slice none 0 0)).heap[w.heap.size+1]?=some (.cells #[.int .i64 0] 30 (0,0)):=(Below.heap_setCell _ _ _ _ (show w.heap.size+1≠w.heap.size by omega)).trans Q1.out;refine⟨by simp,.inl ⟨_,_,rfl,run_takeDeferred hK2,?_⟩⟩;exact⟨_,results_11 rfl _ _ w.heap.size (w.heap.size+1) 23 30 #[.slice none 0 0] #[.int .i64 e2] (0,0) (0,0) _ _ rfl ((World.putObj_heap_other n1D.1).trans q0) Tryz.underlying23 rfl (by kernel_rfl) rfl ((World.putObj_heap_other n1D.2).trans (blk_put q1 0 _ rfl)) Tryz.underlying30 rfl (by kernel_rfl),_,rfl,Kd.R_nil _ _ _ _ _,
    (((HBB.out.trans (HB5.out.mono HBB.out.size)).setCell (p:=⟨w.heap.size,0,none⟩) (Nat.le_refl _) _).setCell (p:=⟨w.heap.size+1,0,none⟩) (Nat.le_succ _) _).trans (belowK_b (w:=w) (Nat.le_refl _) _ D _ _ (by omega) hK2 rfl rfl)⟩
 case round=>
  intro l j x W K hj hK;have HKK:=m0 hK;have HJ:=m0 hj;clear hK hj
  gi_wp2
  refine HKK.out _ ?_;clear HKK;rintro W ⟨⟨pre,v,cs,h1,h2,h3,h4,h5,h6,h7⟩,hB⟩ ⟨b,hb,rfl⟩;have hR:Kd.R k64 64 W (w.heap.size+6) (fun _=>True) v pre:=⟨fun _ _=>trivial,cs,h3,h4 W (fun _=>True)⟩;obtain⟨Av,cv,ev⟩:=Kd.R_slice hR;subst ev;have hbl:=HBL.out j b hb;have hGW:=EstG.below HG.out hB;obtain⟨l2,ok2,hP⟩:∃ l2 ok2,L_parsed.f ⟨b.toArray⟩=some (l2,ok2):=by
   unfold L_parsed.f;rw[if_pos (by show b.toArray.size≤1000000;simp;omega)];exact⟨_,_,rfl⟩
  have hone:L_ParseLayers.one b=if ok2=true∧l2.length=3 then some ⟨rd l2 0,rd l2 1,rd l2 2⟩else none:=by
   unfold L_ParseLayers.one;rw[hP]
   cases ok2 with
   |false=>simp
   |true=>simp
  have H1:=m0 h1;have H2:=m0 h2;have H3:=m0 h3;have H4:=m0 h4;have H5:=m0 h5;have H6:=m0 h6;have H7:=m0 h7;have HR:=m0 hR;have HBB:=m0 hB;have HGW:=m0 hGW;have HBLB:=m0 hbl;have HB_:=m0 hb;have HP:=m0 hP;have HONE:=m0 hone;clear h1 h2 h3 h4 h5 h6 h7 hB hGW hbl hb hR hP hone;have hno:L_ParseLayers.one b=none→∀ (W5:World) (a:Act),Below W.heap.size W W5→leftN (strings_SplitSeq.Kp w.heap.size (w.heap.size+1+1+1+1) (w.heap.size+1+1+1) (w.heap.size+1+1+1+1+1)) (fun j W=>L_ParseLayers.I w fr j W∧Below w.heap.size w W)
    (fun cd _ W=>(cd=Code.ret∧L_ParseLayers.pars fr fr.length=none∧W.heap[w.heap.size]?=some (.cells #[.slice none 0 0] 23 (0,0))∧W.heap[w.heap.size+1]?=some (.cells #[.int .i64 7] 30 (0,0)))∧Below w.heap.size w W) (j+1) W .ret a ((W5.setCell ⟨w.heap.size,0,none⟩ (.slice none 0 0)).setCell ⟨w.heap.size+1,0,none⟩ (.int .i64 7)):=by
   intro hnum W5 a hb5;have hp:L_ParseLayers.pars fr (j+1)=none:=by
    simp only[L_ParseLayers.pars,H1.out,HB_.out,Option.bind_some,hnum];rfl
   have hp2:L_ParseLayers.pars fr fr.length=none:=by
    have:=L_ParseLayers.pars_none fr hp (fr.length-(j+1));rw[show j+1+(fr.length-(j+1))=fr.length by have:=HJ.out;omega]at this;exact this
   have q0:(W5.setCell ⟨w.heap.size,0,none⟩ (.slice none 0 0)).heap[w.heap.size]?=some (.cells #[.slice none 0 0] 23 (0,0)):=blk_put (blk_below H5.out hb5) 0 _ rfl;have q1:(W5.setCell ⟨w.heap.size,0,none⟩ (.slice none 0 0)).heap[w.heap.size+1]?=some (.cells #[.int .i64 0] 30 (0,0)):=(Below.heap_setCell _ _ _ _ (show w.heap.size+1≠w.heap.size by omega)).trans (blk_below H6.out hb5);exact⟨(((⟨hb5.size,fun k o h _=>(hb5.block k (blk_lt h)).trans h⟩:KeepsOthers W W5).trans (KeepsOthers.setCell _ _ _)).trans (KeepsOthers.setCell _ _ _)),⟨rfl,hp2,(Below.heap_setCell _ _ _ _ (show w.heap.size≠w.heap.size+1 by omega)).trans q0,blk_put q1 0 _ rfl⟩,
    ((HBB.out.trans (hb5.mono HBB.out.size)).setCell (p:=⟨w.heap.size,0,none⟩) (Nat.le_refl _) _).setCell (p:=⟨w.heap.size+1,0,none⟩) (Nat.le_succ _) _⟩
  have HNO:=m0 hno;clear hno
  gi_wp2
  refine⟨trivial,?_⟩;refine(CallsIn.inRound l (callsIn_wide.2 (L_parsed.calls ⟨b.toArray⟩ l2 ok2 W HGW.out HP.out))).mono ?_;rintro e w5 ⟨v5,rfl,hr5,hb5⟩;obtain⟨Ao,co,eo⟩:=Kd.R_slice hr5;subst eo;have HB5:=m0 hb5;have HR5:=m0 hr5;clear hb5 hr5
  cases ok2 with
  | false=>
     have q0:=blk_below H5.out HB5.out;have q1:=blk_below H6.out HB5.out;have c0:w5.cell? ⟨w.heap.size,0,none⟩=some (.slice none 0 0):=(blk_cell q0 0).trans rfl;have c1:w5.cell? ⟨w.heap.size+1,0,none⟩=some (.int .i64 0):=(blk_cell q1 0).trans rfl;have f0:=blk_frozen q0 0;have f1:=blk_frozen q1 0;have n01:w.heap.size≠w.heap.size+1:=by omega
     clear q0 q1
     gi_wp2
     exact HNO.out (by rw[HONE.out];rfl) _ _ HB5.out
  | true=>
   by_cases hl3:l2.length=3
   ·have HL3:=m0 hl3;have hl4:((l2.length:Int)==3)=true:=beq_iff_eq.mpr (by omega);have hl5:((l2.length:Int) != 3)=false:=bne_eq_false_iff_eq.mpr (by omega);have hl6:((l2.length:Int)=3):=by omega
    have HPL:Aside0 (pre.length≤60001):=⟨by have h1:=L_ParseLayers.pars_len fr j pre H1.out;have h2:=HJ.out;have h3:=HFL.out;omega⟩;have hmo:Tryz.prog.follows .mixedOrders=true:=by kernel_rfl
    gi_wp2
    have hru:Kd.R k64 64 w5.drew (w.heap.size+6) (fun _=>True) (.slice Av pre.length cv) pre:=Kd.R_drew (Kd.R_below HR.out HB5.out);have hrl:Kd.R (Kd.int .i64) 3 w5.drew W.heap.size (fun _=>True) (.slice Ao l2.length co) l2:=Kd.R_drew HR5.out;have hqu:w5.drew.heap[w.heap.size+1+1]?=some (.cells #[.slice Av pre.length cv] 23 (0,0)):=blk_drew (blk_below H2.out HB5.out);have hbu:Below (w.heap.size+6) W w5.drew:=below_drew1 (HB5.out.mono H7.out);have hsu:w.heap.size+6≤w5.drew.heap.size:=Nat.le_trans H7.out HB5.out.size;have hko:KeepsOthers W w5.drew:=⟨HB5.out.size,fun k o h _=>(HB5.out.block k (blk_lt h)).trans h⟩;have HRL:=m0 hrl;have HRU:=m0 hru;have HQU:=m0 hqu;have HBU:=m0 hbu;have HSU:=m0 hsu;have HKO:=m0 hko;have p0:0≤(0:Int):=(by omega);have q0:0<(l2.length:Int):=(by omega);obtain⟨ad0,e0,hx0⟩:=Kd.at_int (Kd.R_reads' HRL.out).2.2 0 p0 q0
    cases e0
    (try rw[show ((0:Int)).toNat=0 from rfl]at hx0);(try rw[Addr.add_zero']at hx0);have qi0:(0<l2.length)=True:=eq_true (by omega);replace p0:=eq_true p0;replace q0:=eq_true q0;have p1:0≤(1:Int):=(by omega);have q1:1<(l2.length:Int):=(by omega);obtain⟨ad1,e1,hx1⟩:=Kd.at_int (Kd.R_reads' HRL.out).2.2 1 p1 q1;obtain rfl:ad0=ad1:=(by injection e1);(try simp only[show (1:Int).toNat=1 from rfl,Nat.reduceMul,Nat.reduceEqDiff,Go.Addr.add,↓reduceIte]at hx1);(try rw[show ((1:Int)).toNat=1 from rfl]at hx1);have qi1:(1<l2.length)=True:=eq_true (by omega);replace p1:=eq_true p1;replace q1:=eq_true q1;have p2:0≤(2:Int):=(by omega);have q2:2<(l2.length:Int):=(by omega);obtain⟨ad2,e2,hx2⟩:=Kd.at_int (Kd.R_reads' HRL.out).2.2 2 p2 q2;obtain rfl:ad0=ad2:=(by injection e2);(try simp only[show (2:Int).toNat=2 from rfl,Nat.reduceMul,Nat.reduceEqDiff,Go.Addr.add,↓reduceIte]at hx2);(try rw[show ((2:Int)).toNat=2 from rfl]at hx2);have qi2:(2<l2.length)=True:=eq_true (by omega);replace p2:=eq_true p2;replace q2:=eq_true q2;have HRO:=m0 (show w5.drew.ownsRow (w.heap.size+6) 64 3 (.slice Av pre.length cv) pre.length _ from(row_turned_ H3.out (grown_of_below HB5.out none) (fun r e=>by cases e)).drew);clear hru hrl hqu hbu hsu hko;refine startR_ (S:=fun w'=>w'.cell? ⟨w.heap.size+1+1,0,none⟩=some (.slice Av pre.length cv)∧w'.cell? ad0=some (.int .i64 (rd l2 0))∧w'.cell? ⟨ad0.block,ad0.off+1,none⟩=some (.int .i64 (rd l2 1))∧w'.cell? ⟨ad0.block,ad0.off+2,none⟩=some (.int .i64 (rd l2 2))) (ds:=[12,13]) (bs 14 0) hmo (by kernel_rfl) (fun ⟨_,_,h_⟩=>h_) rfl rfl ⟨(blk_cell HQU.out 0).trans rfl,hx0,hx1,hx2⟩ (fun hH=>?_);generalize w5.drew=w6 at HRL HRU HQU HBU HSU HKO HRO hH hx0 hx1 hx2 ⊢;refine with_tabW L_ParseLayers.tab11 L_ParseLayers.bits11 (fun HT_ HW_=>?_);refine pZ 1 (some 32) (bs 14 2) HT_ ?_;refine pZ 2 (some 33) (bs 14 6) HT_ ?_;refine pZ 4 (some 35) (bs 14 22) HT_ ?_;refine pZ 5 (some 36) (bs 14 54) HT_ ?_;refine pZ 7 (some 38) (bs 14 182) HT_ ?_;refine pZ 8 (some 39) (bs 14 438) HT_ ?_;refine takeZ 0 (some 31) (bs 14 439) (tw HT_ HW_) hH ?_;refine takeZ 3 (some 34) (bs 14 447) (tw HT_ HW_) hH ?_;refine takeZ 6 (some 37) (bs 14 511) (tw HT_ HW_) hH ?_;refine takeZ 9 (some 40) (bs 14 1023) (tw HT_ HW_) hH ?_;refine pZ 10 (some 41) (bs 14 2047) HT_ ?_;refine oneZ 11 (some 42) (bs 14 4095) (o1 HT_) fun K hK=>?_;refine value_ (w1:=?_) (v:=?_) (by rfl) rfl ?_ ?_;rotate_left 2
    ·go_simp
     constructor
     ·rfl
     ·rfl
    have hbx:∀ o:Obj,Below w6.heap.size w6 (w6.alloc o):=fun o=>(Below.refl _ _).alloc (Nat.le_refl _) o;refine hK.out _ _ ⟨((hbx _).cell (World.block_lt_of_cell? _ _ hH.1)).trans hH.1,((hbx _).cell (World.block_lt_of_cell? _ _ hH.2.1)).trans hH.2.1,((hbx _).cell (World.block_lt_of_cell? _ _ hH.2.2.1)).trans hH.2.2.1,((hbx _).cell (World.block_lt_of_cell? _ _ hH.2.2.2)).trans hH.2.2.2⟩ (fun hH=>?_);clear hK K hbx;refine nz 42 ?_;refine last_ (i:=12) (N:=some 43) (bs 14 8191) rfl rfl (o1 HT_) (by decide) (fun K hK=>?_);refine Kd.R_append_step k64 (w0:=W) (w.heap.size+6) (by rfl) (.tmp 31) (.tmp 42) 23 64 (.agg #[(.int .i64 0),(.int .i64 0),(.int .i64 0)]) 24 rfl Tryz.underlying23 info64 rfl (by decide) (by omega) (.slice Av pre.length cv) pre (⟨rd l2 0,rd l2 1,rd l2 2⟩:S64) [.int .i64 (rd l2 0),.int .i64 (rd l2 1),.int .i64 (rd l2 2)] (fun _=>True) (fun _=>False) rfl rfl ?aP (fun _ hk=>hk.elim) ?aF ?aO ?aB ?aS ?aL ?_
    (case aP=>exact k64_mkM _ _ _ (⟨rd l2 0,rd l2 1,rd l2 2⟩:S64))
    (case aB=>exact HBU.out)
    (case aF=>exact(fun _ _=>trivial))
    (case aO=>exact HRU.out)
    (case aS=>exact HSU.out)
    (case aL=>have:=HPL.out;omega)
    intro v7 w7 ho7 hb7 hg7 hat7;obtain⟨A7,c7,ev7⟩:=Kd.R_slice ho7;subst ev7;refine hK.out _ _ ?_;clear hK K;refine nz 43 ?_;have e2:w7.heap[w.heap.size+1+1]?=some (.cells #[.slice Av pre.length cv] 23 (0,0)):=(hg7.block _ (blk_lt HQU.out) (row_ne_ HRO.out HQU.out (by decide))).trans HQU.out;have hc7:w7.cell? ⟨w.heap.size+1+1,0,none⟩=some (.slice Av pre.length cv):=(blk_cell e2 0).trans rfl;have hf7:=blk_frozen e2 0;have E2:=m0 e2;have HO7:=m0 ho7;have HB7:=m0 hb7;have HG7:=m0 hg7;clear ho7 hb7 hg7 hat7 e2;refine last_ (i:=13) (N:=none) (bs 14 16383) rfl rfl (o1 HT_) (by decide) (fun K hK=>?_);refine skip_ (w1:=?_) (by rfl) rfl ?_ ?_;rotate_left
    ·go_simp
     rfl
    refine hK.out _ _ ?_;clear hK K;refine done_ (done_of HT_.out (by kernel_rfl)) ?_;obtain⟨_,cs7,hown7,hrep7⟩:=HO7.out;have hb3:Below (w.heap.size+6) W w7:=HB7.out;have hb4:Below w.heap.size W (w7.setCell ⟨w.heap.size+1+1,0,none⟩ (.slice A7 (pre.length+1) c7)):=(hb3.mono (Nat.le_add_right _ _)).setCell (p:=⟨w.heap.size+1+1,0,none⟩) (show w.heap.size≤w.heap.size+1+1 by omega) _;have box:∀ k,k<w.heap.size+6→k≠w.heap.size+1+1→(w7.setCell ⟨w.heap.size+1+1,0,none⟩ (.slice A7 (pre.length+1) c7)).heap[k]?=W.heap[k]? :=fun k hk hne=>(Below.heap_setCell w7 ⟨w.heap.size+1+1,0,none⟩ _ k hne).trans (hb3.block k hk);have hp:L_ParseLayers.pars fr (j+1)=some (pre++ [(⟨rd l2 0,rd l2 1,rd l2 2⟩:S64)]):=by
     simp only[L_ParseLayers.pars,H1.out,HB_.out,Option.bind_some,HONE.out,if_pos (⟨trivial,HL3.out⟩:True∧l2.length=3)]
     rfl
    refine⟨HKO.out.trans ((KeepsOthers.of_grownBy HG7.out (row_cells_ HRO.out)).trans (KeepsOthers.setCell _ _ _)),
     ⟨hb4,box _ (by omega) (by omega),box _ (by omega) (by omega),box _ (by omega) (by omega)⟩,
     ⟨pre++ [(⟨rd l2 0,rd l2 1,rd l2 2⟩:S64)],_,cs7,hp,blk_put E2.out 0 _ rfl,?_,?_,(box _ (by omega) (by omega)).trans H5.out,(box _ (by omega) (by omega)).trans H6.out,?_⟩,HBB.out.trans hb4⟩
    ·have:=row_far_ (.slice A7 (pre.length+1) c7) hown7 E2.out (by decide);rw[show (k64).sz=3 from rfl]at this
     simpa using this
    ·intro U ok;exact⟨hrep7.1,fun j' p hp'=>by have e:=k64_openM (hrep7.2 j' p hp');exact e▸k64_mkM _ _ _ p⟩
    ·have:=hb4.size;have:=H7.out;omega
   ·have HL3:=m0 hl3;have hl4:((l2.length:Int)==3)=false:=beq_eq_false_iff_ne.mpr (by omega);have hl5:((l2.length:Int) != 3)=true:=bne_iff_ne.mpr (by omega);have hl6:¬ ((l2.length:Int)=3):=by omega
    have q0:=blk_below H5.out HB5.out;have q1:=blk_below H6.out HB5.out;have c0:w5.cell? ⟨w.heap.size,0,none⟩=some (.slice none 0 0):=(blk_cell q0 0).trans rfl;have c1:w5.cell? ⟨w.heap.size+1,0,none⟩=some (.int .i64 0):=(blk_cell q1 0).trans rfl;have f0:=blk_frozen q0 0;have f1:=blk_frozen q1 0;have n01:w.heap.size≠w.heap.size+1:=by omega
    clear q0 q1
    gi_wp2
    exact HNO.out (by rw[HONE.out,if_neg (fun h=>HL3.out h.2)]) _ _ HB5.out
end
section
def Bs_Within.f (a0:Int) (a1:Int) (a2:Int):Option (Bool):=if a1≤a0 then(some (decide (a0≤a2)))else(some false)
theorem Bs_Within.calls (a0:Int) (a1:Int) (a2:Int) (r:Bool) (w:World) (H:Bs_Within.f a0 a1 a2=some r):
  Calls Tryz.prog 68 #[.int .i64 a0,.int .i64 a1,.int .i64 a2] w fun e w'=>e= .returned (.bool r)∧Drawn0 w w':=by
 unfold Bs_Within.f at H
 by_cases c4:a1≤a0
 ·rw [if_pos c4]at H;have c4b0:=decide_eq_true c4;clear c4;obtain rfl:=Option.some.inj H;go_enter Tryz.func68,Tryz.ntmps68
  go_wp2
  go_ret
  exact⟨rz,dz⟩
 ·rw [if_neg c4]at H;have c4b0:=decide_eq_false c4;clear c4;obtain rfl:=Option.some.inj H;go_enter Tryz.func68,Tryz.ntmps68
  go_wp2
  go_ret
  exact⟨rz,dz⟩
end
section
def Rf_CheckProfile.l0:Nat→List Int→Int→Option (Int×Int)
  |0,_,_=>none
  |k+1,x0,x4=>if x4<(x0.length:Int)then(if 0≤x4 then((Bs_Within.f (rd x0 x4) 0 10000).bind fun t422=>(if t422=true then(Rf_CheckProfile.l0 k x0 (wrap64 (x4+1)))else(some (x4,2))))else(none))else(some (0,0))
def Rf_CheckProfile.f (k:Nat) (l0:List Int):Option (Int×Int):=if(l0.length:Int)=0 then(some (0,10))else(if(l0.length:Int)>24 then(some (0,8))else(Rf_CheckProfile.l0 k l0 0))
theorem Rf_CheckProfile.mono_l:∀ k,(∀ y0 y1,LeO (Rf_CheckProfile.l0 k y0 y1) (Rf_CheckProfile.l0 (k+1) y0 y1))
  |0=>fun _ _ r h=>by simp[Rf_CheckProfile.l0]at h
  | k +1=>by
    have ih0:=Rf_CheckProfile.mono_l k
    · intro y0 y1;unfold Rf_CheckProfile.l0
      exact lz
theorem Rf_CheckProfile.mono:∀ a0 k,LeO (Rf_CheckProfile.f k a0) (Rf_CheckProfile.f (k+1) a0):=by
  intro a0 k;have ih0:=Rf_CheckProfile.mono_l k;unfold Rf_CheckProfile.f
  exact lz
theorem Rf_CheckProfile.calls (k:Nat) (A0:Option Addr) (c0:Nat) (l0:List Int) (r1:Int) (r2:Int) (w:World) (hr0:Kd.C (Kd.int .i64) w A0 l0.length l0) (hc0:l0.length≤c0) (H:Rf_CheckProfile.f k l0=some (r1,r2)):
    Calls Tryz.prog 37 #[.slice A0 l0.length c0] w fun e w'=>e= .returned (.tuple #[.int .i64 r1,.int .i64 r2])∧Drawn0 w w':=by
  have HR0:=m0 hr0;have HC0:=m0 hc0;clear hr0 hc0;unfold Rf_CheckProfile.f at H
  by_cases c2:(l0.length:Int)=0
  · rw[if_pos c2]at H;have c2b0:=beq_iff_eq.mpr c2;have c2b1:=bne_eq_false_iff_eq.mpr c2;clear c2;simp only[Option.some.injEq,Prod.mk.injEq]at H;obtain⟨rfl,rfl⟩:=H;go_enter Tryz.func37,Tryz.ntmps37
    go_wp2
    go_ret2
    exact⟨rz,dz⟩
  · rw [if_neg c2]at H;have c2b0:=beq_eq_false_iff_ne.mpr c2;have c2b1:=bne_iff_ne.mpr c2;have c2b2:¬ (l0=[]):=fun h_=>c2 (by rw[h_];rfl)
    by_cases c3:(l0.length:Int)>24
    · rw[if_pos c3]at H;have c3b0:=decide_eq_true c3;have c3b1:decide (24<l0.length)=true:=decide_eq_true (by omega);clear c3;simp only[Option.some.injEq,Prod.mk.injEq]at H;obtain⟨rfl,rfl⟩:=H;go_enter Tryz.func37,Tryz.ntmps37
      go_wp2
      go_ret2
      exact⟨rz,dz⟩
    · rw [if_neg c3]at H;have c3b0:=decide_eq_false c3;have c3b1:decide (24<l0.length)=false:=decide_eq_false (by omega);clear c3;have H':=m0 H;clear H;go_enter Tryz.func37,Tryz.ntmps37
      go_wp2
      go_loopg [4] k (fun kq v4 w'=>∃ (x4_1:Int),v4= .int .i64 x4_1∧Aside0 (Rf_CheckProfile.l0 kq l0 x4_1=some (r1,r2))∧Aside0 (kq≤k)∧Drawn0 w w')
      case atStart=>exact⟨(0),rz,H',⟨Nat.le_refl _⟩,dz⟩
      case round=>
        clear H';obtain⟨x4_1,rfl,HA,HK1,⟨m1,rfl⟩⟩:=hrel
        cases gk with
        |zero=>exact absurd HA.out (by simp[Rf_CheckProfile.l0])
        | succ k1=>
          have H:=HA.out;clear HA;simp only[Rf_CheckProfile.l0]at H
          by_cases c4:x4_1<(l0.length:Int)
          · rw [if_pos c4]at H;have c4b0:=decide_eq_true c4;clear c4
            by_cases c5:0≤x4_1
            · rw[if_pos c5]at H;have c5b0:=decide_eq_true c5;clear c5;replace H:=oa H;obtain⟨t422,A6,H⟩:=H;(try dsimp only at H)
              by_cases c7:t422=true
              · subst c7;rw[if_pos rfl]at H;have H':=m0 H;clear H;have p421:0≤(x4_1:Int):=od;have q421:x4_1<(l0.length:Int):=od;obtain⟨ad421,e421,hx421_0⟩:=Kd.at_int HR0.out x4_1 p421 q421
                cases e421
                replace p421:=eq_true p421;replace q421:=eq_true q421
                go_wp2_with (first|((with_reducible refine gc 68 rfl ?_);refine gl (some 21) Tryz.func68 #[.int .i64 (rd l0 x4_1),.int .i64 0,.int .i64 10000] ?_;(with_reducible refine(Bs_Within.calls (rd l0 x4_1) 0 10000 true _ A6.out).mono ?_);rintro e w' ⟨rfl,⟨nd,rfl⟩⟩;refine⟨_,rfl,?_⟩))
                go_roundg k1
                case measure=>have:=HK1.out;omega
                case rel=>exact⟨(wrap64 (x4_1+1)),rz,H',⟨by have:=HK1.out;omega⟩,dz⟩
              · replace c7:=Bool.eq_false_iff.mpr c7;subst c7;rw[if_neg (show ¬ (false=true) by decide)]at H;simp only[Option.some.injEq,Prod.mk.injEq]at H;obtain⟨rfl,rfl⟩:=H;have p421:0≤(x4_1:Int):=od;have q421:x4_1<(l0.length:Int):=od;obtain⟨ad421,e421,hx421_0⟩:=Kd.at_int HR0.out x4_1 p421 q421
                cases e421
                replace p421:=eq_true p421;replace q421:=eq_true q421
                go_wp2_with (first|((with_reducible refine gc 68 rfl ?_);refine gl (some 21) Tryz.func68 #[.int .i64 (rd l0 x4_1),.int .i64 0,.int .i64 10000] ?_;(with_reducible refine(Bs_Within.calls (rd l0 x4_1) 0 10000 false _ A6.out).mono ?_);rintro e w' ⟨rfl,⟨nd,rfl⟩⟩;refine⟨_,rfl,?_⟩))
                go_ret2
                exact⟨rz,dz⟩
            · rw[if_neg c5]at H;exact absurd H (by simp)
          · rw[if_neg c4]at H;have c4b0:=decide_eq_false c4;clear c4;simp only[Option.some.injEq,Prod.mk.injEq]at H;obtain⟨rfl,rfl⟩:=H
            go_wp2
            go_ret2
            exact⟨rz,dz⟩
end
section
def Rf_ProfileErr.f (k:Nat) (l0:List Int):Option (Int):=(Rf_CheckProfile.f k l0).bind fun bt423=>(some bt423.2)
theorem Rf_ProfileErr.mono:∀ a0 k,LeO (Rf_ProfileErr.f k a0) (Rf_ProfileErr.f (k+1) a0):=by
 intro a0 k;unfold Rf_ProfileErr.f
 have m1:=@Rf_CheckProfile.mono;exact lz
theorem Rf_ProfileErr.calls (k:Nat) (A0:Option Addr) (c0:Nat) (l0:List Int) (r:Int) (w:World) (hr0:Kd.C (Kd.int .i64) w A0 l0.length l0) (hc0:l0.length≤c0) (H:Rf_ProfileErr.f k l0=some r):
  Calls Tryz.prog 18 #[.slice A0 l0.length c0] w fun e w'=>e= .returned (.int .i64 r)∧Drawn0 w w':=by
 have HR0:=m0 hr0;have HC0:=m0 hc0;clear hr0 hc0;unfold Rf_ProfileErr.f at H;replace H:=oa H;obtain⟨⟨t423,t424⟩,A2,H⟩:=H;(try dsimp only at H);obtain rfl:=Option.some.inj H;go_enter Tryz.func18,Tryz.ntmps18
 go_wp2_with (first|((with_reducible refine gc 37 rfl ?_);refine gl (some 7) Tryz.func37 #[.slice A0 l0.length c0] ?_;(with_reducible refine(Rf_CheckProfile.calls k _ _ l0 t423 t424 _ ?side1 ?side2 A2.out).mono ?_);(case side1=>exact cd HR0.out);(case side2=>exact HC0.out);rintro e w' ⟨rfl,⟨nd,rfl⟩⟩;refine⟨_,rfl,?_⟩))
 go_ret
 exact⟨rz,dz⟩
end
section
def Bs_Cut.l0:Nat→ByteArray→Int→List ByteArray→Int→Int→Option (List ByteArray)
 |0,_,_,_,_,_=>none
 |k+1,x0,x1,x5,x6,x7=>if x7<(x0.size:Int)then(if 0≤x7 then(if(bt x0 x7)=x1 then(if 0≤x6 then(if x6≤x7 then(if x7≤(x0.size:Int)then(if x5.length<8796093022208 then(Bs_Cut.l0 k x0 x1 (x5++ [x0.extract (x6:Int).toNat (x7:Int).toNat]) (wrap64 (x7+1)) (wrap64 (x7+1)))else(none))else(none))else(none))else(none))else(Bs_Cut.l0 k x0 x1 x5 x6 (wrap64 (x7+1))))else(none))else(if 0≤x6 then(if x6≤(x0.size:Int)then(if x5.length<8796093022208 then(some (x5++ [x0.extract (x6:Int).toNat x0.size]))else(none))else(none))else(none))
def Bs_Cut.f (k:Nat) (a0:ByteArray) (a1:Int):Option (List ByteArray):=Bs_Cut.l0 k a0 a1 ([]:List ByteArray) 0 0
theorem Bs_Cut.mono_l:∀ k,(∀ y0 y1 y2 y3 y4,LeO (Bs_Cut.l0 k y0 y1 y2 y3 y4) (Bs_Cut.l0 (k+1) y0 y1 y2 y3 y4))
 |0=>fun _ _ _ _ _ r h=>by simp[Bs_Cut.l0]at h
 | k+1=>by
  have ih0:=Bs_Cut.mono_l k
  ·intro y0 y1 y2 y3 y4;unfold Bs_Cut.l0
   exact lz
theorem Bs_Cut.mono:∀ a0 a1 k,LeO (Bs_Cut.f k a0 a1) (Bs_Cut.f (k+1) a0 a1):=by
 intro a0 a1 k;have ih0:=Bs_Cut.mono_l k;unfold Bs_Cut.f
 exact lz
theorem Bs_Cut.calls (k:Nat) (a0:ByteArray) (a1:Int) (r:List ByteArray) (w:World) (H:Bs_Cut.f k a0 a1=some r):
  Calls Tryz.prog 35 #[.string a0,.int .u8 a1] w fun e w'=>∃ v0_:Value,e= .returned (v0_)∧Kd.R Kd.string 9 w' w.heap.size (fun _=>True) v0_ r∧Below w.heap.size w w':=by
 have HB:=m0 (Below.refl w.heap.size w);unfold Bs_Cut.f at H;have H':=m0 H;clear H;go_enter Tryz.func35,Tryz.ntmps35
 go_wp2
 go_loopg [5,6,7] k (fun kq v5 v6 v7 w'=>∃ (x5_1:List ByteArray) (x6_1:Int) (x7_1:Int),v6= .int .i64 x6_1∧v7= .int .i64 x7_1∧Aside0 (Bs_Cut.l0 kq a0 a1 x5_1 x6_1 x7_1=some r)∧Aside0 (kq≤k)∧Aside0 (Kd.R Kd.string 9 w' w.heap.size (fun _=>True) v5 x5_1)∧Aside0 (Below w.heap.size w w'))
 case atStart=>exact⟨(([]:List ByteArray)),(0),(0),rz,rz,H',⟨Nat.le_refl _⟩,⟨by first|exact Kd.R_nil _ _ _ _ _|exact Kd.N_nil _ _ _ _ _|exact Kd.V_nil _ _ _ _ _|exact Kd.Q_nil _ _ _ _ _|exact Kd.S_nil _ _ _ _ _⟩,⟨bz⟩⟩
 case round=>
  clear H';obtain⟨x5_1,x6_1,x7_1,rfl,rfl,HA,HK1,HO_5,HB⟩:=hrel
  cases gk with
  |zero=>exact absurd HA.out (by simp[Bs_Cut.l0])
  | succ k1=>
   have H:=HA.out;clear HA;simp only[Bs_Cut.l0]at H
   by_cases c3:x7_1<(a0.size:Int)
   ·rw [if_pos c3]at H;have c3b0:=decide_eq_true c3;clear c3
    by_cases c4:0≤x7_1
    ·rw [if_pos c4]at H;have c4b0:=decide_eq_true c4;clear c4
     by_cases c6:(bt a0 x7_1)=a1
     ·rw [if_pos c6]at H;have c6b0:=beq_iff_eq.mpr c6;have c6b1:=bne_eq_false_iff_eq.mpr c6;clear c6
      by_cases c7:0≤x6_1
      ·rw [if_pos c7]at H;have c7b0:=eq_true c7;have c7b1:=decide_eq_true c7;clear c7
       by_cases c8:x6_1≤x7_1
       ·rw [if_pos c8]at H;have c8b0:=eq_true c8;have c8b1:=decide_eq_true c8;clear c8
        by_cases c9:x7_1≤(a0.size:Int)
        ·rw [if_pos c9]at H;have c9b0:=eq_true c9;have c9b1:=decide_eq_true c9;clear c9
         by_cases c10:x5_1.length<8796093022208
         ·rw [if_pos c10]at H;have LMc10:=m0 c10;clear c10;obtain⟨y425,hy425⟩:∃ y_:List ByteArray,y_=(x5_1++ [a0.extract (x6_1:Int).toNat (x7_1:Int).toNat]):=⟨_,rfl⟩;replace H:(Bs_Cut.l0 k1 a0 a1 y425 (wrap64 (x7_1+1)) (wrap64 (x7_1+1)))=some r:=hq hy425 H
          have Ny425:=m0 hy425;clear hy425;have H':=m0 H;clear H;have p5:0≤(x7_1:Int):=od;have q5:x7_1<(a0.size:Int):=od;have hx5:=bt_at a0 x7_1;replace p5:=eq_true p5;replace q5:=eq_true q5
          go_wp2_with (first|((with_reducible refine gate_builtin (b:= .append) (xs:= #[.tmp 19,.tmp 24]) rfl ?_);at_builtin;refine Kd.R_append Kd.string (w0:=w) w.heap.size rfl (.tmp 19) (.tmp 24) 62 9 (.string ⟨#[]⟩) 16 rfl Tryz.underlying62 info9 rfl (by decide) (by omega) u5 x5_1 (a0.extract (x6_1:Int).toNat (x7_1:Int).toNat) [.string (a0.extract (x6_1:Int).toNat (x7_1:Int).toNat)] (fun _=>True) (fun _=>False) rfl rfl ?aP (fun _ hk=>hk.elim) ?aF ?aO ?aB ?aS ?aL ?_;(case aP=>exact rfl);(case aB=>exact bz);(case aF=>exact(fun _ _=>trivial));(case aO=>exact(br HO_5.out));(case aS=>exact(below_size bz));(case aL=>have:=LMc10.out;omega);intro v426 w11 ho hb hg hat;rw[← Ny425.out]at ho;have n0_:=m0 (hb);have n1_:=m0 (ho);clear HB HO_5;have HB:=n0_;have HO427:=n1_;clear n0_ n1_;clear ho hb hg hat))
          go_roundg k1
          case measure=>have:=HK1.out;omega
          case rel=>exact⟨(y425),(wrap64 (x7_1+1)),(wrap64 (x7_1+1)),rz,rz,H',⟨by have:=HK1.out;omega⟩,⟨br HO427.out⟩,⟨bz⟩⟩
         ·rw [if_neg c10]at H;exact absurd H (by simp)
        ·rw [if_neg c9]at H;exact absurd H (by simp)
       ·rw [if_neg c8]at H;exact absurd H (by simp)
      ·rw [if_neg c7]at H;exact absurd H (by simp)
     ·rw [if_neg c6]at H;have c6b0:=beq_eq_false_iff_ne.mpr c6;have c6b1:=bne_iff_ne.mpr c6;have H':=m0 H;clear H;have p5:0≤(x7_1:Int):=od;have q5:x7_1<(a0.size:Int):=od;have hx5:=bt_at a0 x7_1;replace p5:=eq_true p5;replace q5:=eq_true q5
      go_wp2
      go_roundg k1
      case measure=>have:=HK1.out;omega
      case rel=>exact⟨(x5_1),(x6_1),(wrap64 (x7_1+1)),rz,rz,H',⟨by have:=HK1.out;omega⟩,⟨br HO_5.out⟩,⟨bz⟩⟩
    ·rw [if_neg c4]at H;exact absurd H (by simp)
   ·rw [if_neg c3]at H;have c3b0:=decide_eq_false c3;clear c3
    by_cases c12:0≤x6_1
    ·rw [if_pos c12]at H;have c12b0:=eq_true c12;have c12b1:=decide_eq_true c12;clear c12
     by_cases c13:x6_1≤(a0.size:Int)
     ·rw [if_pos c13]at H;have c13b0:=eq_true c13;have c13b1:=decide_eq_true c13;clear c13
      by_cases c14:x5_1.length<8796093022208
      ·rw [if_pos c14]at H;have LMc14:=m0 c14;clear c14;obtain⟨y428,hy428⟩:∃ y_:List ByteArray,y_=(x5_1++ [a0.extract (x6_1:Int).toNat a0.size]):=⟨_,rfl⟩;replace H:(some y428)=some r:=hq hy428 H
       have Ny428:=m0 hy428;clear hy428;obtain rfl:=Option.some.inj H
       go_wp2_with (first|((with_reducible refine gate_builtin (b:= .append) (xs:= #[.tmp 28,.tmp 32]) rfl ?_);at_builtin;refine Kd.R_append Kd.string (w0:=w) w.heap.size rfl (.tmp 28) (.tmp 32) 62 9 (.string ⟨#[]⟩) 16 rfl Tryz.underlying62 info9 rfl (by decide) (by omega) u5 x5_1 (a0.extract (x6_1:Int).toNat a0.size) [.string (a0.extract (x6_1:Int).toNat a0.size)] (fun _=>True) (fun _=>False) rfl rfl ?aP (fun _ hk=>hk.elim) ?aF ?aO ?aB ?aS ?aL ?_;(case aP=>exact rfl);(case aB=>exact bz);(case aF=>exact(fun _ _=>trivial));(case aO=>exact(br HO_5.out));(case aS=>exact(below_size bz));(case aL=>have:=LMc14.out;omega);intro v429 w15 ho hb hg hat;rw[← Ny428.out]at ho;have n0_:=m0 (hb);have n1_:=m0 (ho);clear HB HO_5;have HB:=n0_;have HO430:=n1_;clear n0_ n1_;clear ho hb hg hat))
       go_ret
       exact⟨_,e4,by(with_reducible repeat(first|apply Kd.R_alloc|apply Kd.R_drewN|apply Kd.R_drew));exact HO430.out,bz⟩
      ·rw [if_neg c14]at H;exact absurd H (by simp)
     ·rw [if_neg c13]at H;exact absurd H (by simp)
    ·rw [if_neg c12]at H;exact absurd H (by simp)
end
section
mutual
def Bs_Number.j0:Nat→ByteArray→Int→Int→Bool→Option (Int×Bool)
  |0,_,_,_,_=>none
  |k+1,x0,x1,x6,x16=>if x16=true then(Bs_Number.j1 k x0 x1 1)else(Bs_Number.j1 k x0 x1 x6)
def Bs_Number.j1:Nat→ByteArray→Int→Int→Option (Int×Bool)
  |0,_,_,_=>none
  |k+1,x0,x1,x6=>if(x0.size:Int)=x6 then(Bs_Number.j2 k x0 x6 true)else(if(wrap64 ((x0.size:Int)-x6))>x1 then(Bs_Number.j2 k x0 x6 true)else(if 0≤x6 then(if x6<(x0.size:Int)then(if(bt x0 x6)=48 then(Bs_Number.j2 k x0 x6 (decide ((x0.size:Int)>1)))else(Bs_Number.j2 k x0 x6 false))else(none))else(none)))
def Bs_Number.j2:Nat→ByteArray→Int→Bool→Option (Int×Bool)
  |0,_,_,_=>none
  |k+1,x0,x6,x39=>if x39=true then(some (0,false))else(Bs_Number.l0 k x0 x6 0 x6)
def Bs_Number.l0:Nat→ByteArray→Int→Int→Int→Option (Int×Bool)
  |0,_,_,_,_=>none
  |k+1,x0,x6,x7,x8=>if x8<(x0.size:Int)then(if 0≤x8 then(if(bt x0 x8)<48 then(some (0,false))else(if(bt x0 x8)>57 then(some (0,false))else(Bs_Number.l0 k x0 x6 (wrap64 ((wrap64 (10*x7))+(((bt x0 x8)-48) % 256))) (wrap64 (x8+1)))))else(none))else(if x6=1 then(some (wrap64 (-x7),true))else(some (x7,true)))
end
def Bs_Number.f (k:Nat) (a0:ByteArray) (a1:Int):Option (Int×Bool):=if(a0.size:Int)>0 then(if 0<(a0.size:Int)then(Bs_Number.j0 k a0 a1 0 ((bt a0 0)==45))else(none))else(Bs_Number.j0 k a0 a1 0 false)
theorem Bs_Number.mono_l:∀ k,(∀ y0 y1 y2 y3,LeO (Bs_Number.j0 k y0 y1 y2 y3) (Bs_Number.j0 (k+1) y0 y1 y2 y3))∧(∀ y0 y1 y2,LeO (Bs_Number.j1 k y0 y1 y2) (Bs_Number.j1 (k+1) y0 y1 y2))∧(∀ y0 y1 y2,LeO (Bs_Number.j2 k y0 y1 y2) (Bs_Number.j2 (k+1) y0 y1 y2))∧(∀ y0 y1 y2 y3,LeO (Bs_Number.l0 k y0 y1 y2 y3) (Bs_Number.l0 (k+1) y0 y1 y2 y3))
  |0=>⟨fun _ _ _ _ r h=>by simp[Bs_Number.j0]at h,fun _ _ _ r h=>by simp[Bs_Number.j1]at h,fun _ _ _ r h=>by simp[Bs_Number.j2]at h,fun _ _ _ _ r h=>by simp[Bs_Number.l0]at h⟩
  | k +1=>by
    obtain⟨ih0,ih1,ih2,ih3⟩:=Bs_Number.mono_l k;refine⟨?_,?_,?_,?_⟩
    · intro y0 y1 y2 y3;unfold Bs_Number.j0
      exact lz
    · intro y0 y1 y2;unfold Bs_Number.j1
      exact lz
    · intro y0 y1 y2;unfold Bs_Number.j2
      exact lz
    · intro y0 y1 y2 y3;unfold Bs_Number.l0
      exact lz
theorem Bs_Number.mono:∀ a0 a1 k,LeO (Bs_Number.f k a0 a1) (Bs_Number.f (k+1) a0 a1):=by
  intro a0 a1 k;obtain⟨ih0,ih1,ih2,ih3⟩:=Bs_Number.mono_l k;unfold Bs_Number.f
  exact lz
theorem Bs_Number.calls (k :Nat) (a0:ByteArray) (a1:Int) (r1:Int) (r2:Bool) (w:World) (H:Bs_Number.f k a0 a1=some (r1,r2)):
    Calls Tryz.prog 66 #[.string a0,.int .i64 a1] w fun e w'=>e= .returned (.tuple #[.int .i64 r1,.bool r2])∧Drawn0 w w':=by
  unfold Bs_Number.f at H;have HC3:=m0 H;clear H;go_enter Tryz.func66,Tryz.ntmps66
  go_upto_region 2 with (fail)
  go_cut [16] (fun v16 wc=>∃ (kq:Nat) (x16_2:Bool),v16= .bool x16_2∧Aside0 (Bs_Number.j0 kq a0 a1 0 x16_2=some (r1,r2))∧Aside0 (kq≤k)∧Drawn0 w wc)
  case first=>
    have H:=HC3.out;clear HC3
    by_cases c4:(a0.size:Int)>0
    · rw[if_pos c4]at H;have c4b0:=decide_eq_true c4;have c4b1:decide (0<a0.size)=true:=decide_eq_true (by omega);clear c4
      (first|rw[c4b0]|(simp only[i64_w,i32_w];rw[c4b0])|skip)
      by_cases c5:0<(a0.size:Int)
      · rw[if_pos c5]at H;have c5b0:=decide_eq_true c5;have c5b1:decide (0<a0.size)=true:=decide_eq_true (by omega);clear c5;have H':=m0 H;clear H;have p6:0≤(0:Int):=(by omega);have q6:0<a0.size:=(by have:(0:Int)<(a0.size:Int):=od;omega);have hx6:∀ h:0<a0.size,((a0[0]'h).toNat:Int)=bt a0 0:=bt_at a0 0;clear p6;have qi6:(0<(a0.size:Int))=True:=eq_true (od);replace q6:=eq_true q6
        go_wp2
        go_meet
        case rel=>exact⟨_,(((bt a0 0)==45)),rz,H',⟨by first|omega|exact Nat.le_refl _⟩,dz⟩
      · rw[if_neg c5]at H;exact absurd H (by simp)
    · rw[if_neg c4]at H;have c4b0:=decide_eq_false c4;have c4b1:decide (0<a0.size)=false:=decide_eq_false (by omega);clear c4
      (first|rw[c4b0]|(simp only[i64_w,i32_w];rw[c4b0])|skip)
      have H':=m0 H;clear H
      go_wp2
      go_meet
      case rel=>exact⟨_,(false),rz,H',⟨by first|omega|exact Nat.le_refl _⟩,dz⟩
  case rest =>
    clear HC3
    try clear hx6
    try clear qi6
    obtain⟨kq,x16_2,rfl,HA,HJ2,⟨mc2,rfl⟩⟩:=hcut
    cases kq with
    |zero=>exact absurd HA.out (by simp[Bs_Number.j0])
    | succ kj2 =>
      have H:=HA.out;clear HA;simp only[Bs_Number.j0]at H;have HC7:=m0 H;clear H
      go_upto_if 16 with (fail)
      go_cut [6] (fun v6 wc=>∃ (kq:Nat) (x6_6:Int),v6= .int .i64 x6_6∧Aside0 (Bs_Number.j1 kq a0 a1 x6_6=some (r1,r2))∧Aside0 (kq≤kj2)∧Drawn0 w wc)
      case first=>
        have H:=HC7.out;clear HC7
        by_cases c8:x16_2=true
        · subst c8;rw[if_pos rfl]at H;have H':=m0 H;clear H
          go_wp2
          go_meet
          case rel=>exact⟨_,(1),rz,H',⟨by have:=HJ2.out;first|omega|exact Nat.le_refl _⟩,dz⟩
        · replace c8:=Bool.eq_false_iff.mpr c8;subst c8;rw[if_neg (show ¬ (false=true) by decide)]at H;have H':=m0 H;clear H
          go_wp2
          go_meet
          case rel=>exact⟨_,(0),rz,H',⟨by have:=HJ2.out;first|omega|exact Nat.le_refl _⟩,dz⟩
      case rest =>
        clear HC7
        try clear hx6
        try clear qi6
        obtain⟨kq,x6_6,rfl,HA,HJ6,⟨mc6,rfl⟩⟩:=hcut
        cases kq with
        |zero=>exact absurd HA.out (by simp[Bs_Number.j1])
        | succ kj6 =>
          have H:=HA.out;clear HA;simp only[Bs_Number.j1]at H;have HC9:=m0 H;clear H
          go_upto_region 4 with (fail)
          go_cut [39] (fun v39 wc=>∃ (kq:Nat) (x39_8:Bool),v39= .bool x39_8∧Aside0 (Bs_Number.j2 kq a0 x6_6 x39_8=some (r1,r2))∧Aside0 (kq≤kj6)∧Drawn0 w wc)
          case first =>
            have H:=HC9.out;clear HC9
            by_cases c10:(a0.size:Int)=x6_6
            · rw[if_pos c10]at H;have c10b0:=beq_iff_eq.mpr c10;have c10b1:=bne_eq_false_iff_eq.mpr c10;clear c10
              (first|rw[c10b0]|(simp only[i64_w,i32_w];rw[c10b0])|skip)
              have H':=m0 H;clear H
              go_wp2
              go_meet
              case rel=>exact⟨_,(true),rz,H',⟨by have:=HJ2.out;have:=HJ6.out;first|omega|exact Nat.le_refl _⟩,dz⟩
            · rw [if_neg c10]at H;have c10b0:=beq_eq_false_iff_ne.mpr c10;have c10b1:=bne_iff_ne.mpr c10
              (first|rw[c10b0]|(simp only[i64_w,i32_w];rw[c10b0])|skip)
              by_cases c11:(wrap64 ((a0.size:Int)-x6_6))>a1
              · rw[if_pos c11]at H;have c11b0:=decide_eq_true c11;clear c11;have H':=m0 H;clear H
                go_wp2
                go_meet
                case rel=>exact⟨_,(true),rz,H',⟨by have:=HJ2.out;have:=HJ6.out;first|omega|exact Nat.le_refl _⟩,dz⟩
              · rw [if_neg c11]at H;have c11b0:=decide_eq_false c11;clear c11
                by_cases c12:0≤x6_6
                · rw [if_pos c12]at H;have c12b0:=decide_eq_true c12;clear c12
                  by_cases c13:x6_6<(a0.size:Int)
                  · rw[if_pos c13]at H;have c13b0:=decide_eq_true c13;clear c13;have p14:0≤(x6_6:Int):=od;have q14:x6_6<(a0.size:Int):=od;have hx14:=bt_at a0 x6_6;replace p14:=eq_true p14;replace q14:=eq_true q14
                    by_cases c15:(bt a0 x6_6)=48
                    · rw[if_pos c15]at H;have c15b0:=beq_iff_eq.mpr c15;have c15b1:=bne_eq_false_iff_eq.mpr c15;clear c15;have H':=m0 H;clear H
                      go_wp2
                      go_meet
                      case rel=>exact⟨_,(decide ((a0.size:Int)>1)),rz,H',⟨by have:=HJ2.out;have:=HJ6.out;first|omega|exact Nat.le_refl _⟩,dz⟩
                    · rw[if_neg c15]at H;have c15b0:=beq_eq_false_iff_ne.mpr c15;have c15b1:=bne_iff_ne.mpr c15;have H':=m0 H;clear H
                      go_wp2
                      go_meet
                      case rel=>exact⟨_,(false),rz,H',⟨by have:=HJ2.out;have:=HJ6.out;first|omega|exact Nat.le_refl _⟩,dz⟩
                  · rw[if_neg c13]at H;exact absurd H (by simp)
                · rw[if_neg c12]at H;exact absurd H (by simp)
          case rest =>
            clear HC9
            try clear hx1
            try clear hx6
            try clear qi6
            try clear hx14
            obtain⟨kq,x39_8,rfl,HA,HJ8,⟨mc8,rfl⟩⟩:=hcut
            cases kq with
            |zero=>exact absurd HA.out (by simp[Bs_Number.j2])
            | succ kj8 =>
              have H:=HA.out;clear HA;simp only[Bs_Number.j2]at H
              by_cases c16:x39_8=true
              · subst c16;rw[if_pos rfl]at H;simp only[Option.some.injEq,Prod.mk.injEq]at H;obtain⟨rfl,rfl⟩:=H
                go_wp2
                go_ret2
                exact⟨rz,dz⟩
              · replace c16 :=Bool.eq_false_iff.mpr c16;subst c16;rw[if_neg (show ¬ (false=true) by decide)]at H;have H':=m0 H;clear H
                go_wp2
                go_loopg [7,8] kj8 (fun kq v7 v8 w'=>∃ (x7_4:Int) (x8_4:Int),v7= .int .i64 x7_4∧v8= .int .i64 x8_4∧Aside0 (Bs_Number.l0 kq a0 x6_6 x7_4 x8_4=some (r1,r2))∧Aside0 (kq≤kj8)∧Drawn0 w w')
                case atStart=>exact⟨(0),(x6_6),rz,rz,H',⟨Nat.le_refl _⟩,dz⟩
                case round =>
                  clear H'
                  try clear hx1
                  try clear hx6
                  try clear qi6
                  try clear hx14
                  obtain⟨x7_4,x8_4,rfl,rfl,HA,HK4,⟨m4,rfl⟩⟩:=hrel
                  cases gk with
                  |zero=>exact absurd HA.out (by simp[Bs_Number.l0])
                  | succ k4 =>
                    have H:=HA.out;clear HA;simp only[Bs_Number.l0]at H
                    by_cases c17:x8_4<(a0.size:Int)
                    · rw [if_pos c17]at H;have c17b0:=decide_eq_true c17;clear c17
                      by_cases c18:0≤x8_4
                      · rw [if_pos c18]at H;have c18b0:=decide_eq_true c18;clear c18;have p19:0≤(x8_4:Int):=od;have q19:x8_4<(a0.size:Int):=od;have hx19:=bt_at a0 x8_4;replace p19:=eq_true p19;replace q19:=eq_true q19
                        by_cases c20:(bt a0 x8_4)<48
                        · rw[if_pos c20]at H;have c20b0:=decide_eq_true c20;clear c20;simp only[Option.some.injEq,Prod.mk.injEq]at H;obtain⟨rfl,rfl⟩:=H
                          go_wp2
                          go_ret2
                          exact⟨rz,dz⟩
                        · rw[if_neg c20]at H;have c20b0:=decide_eq_false c20;clear c20;have p21:0≤(x8_4:Int):=od;have q21:x8_4<(a0.size:Int):=od;have hx21:=bt_at a0 x8_4;replace p21:=eq_true p21;replace q21:=eq_true q21
                          by_cases c22:(bt a0 x8_4)>57
                          · rw[if_pos c22]at H;have c22b0:=decide_eq_true c22;clear c22;simp only[Option.some.injEq,Prod.mk.injEq]at H;obtain⟨rfl,rfl⟩:=H
                            go_wp2
                            go_ret2
                            exact⟨rz,dz⟩
                          · rw[if_neg c22]at H;have c22b0:=decide_eq_false c22;clear c22;have H':=m0 H;clear H;have p23:0≤(x8_4:Int):=od;have q23:x8_4<(a0.size:Int):=od;have hx23:=bt_at a0 x8_4;replace p23:=eq_true p23;replace q23:=eq_true q23
                            go_wp2
                            go_roundg k4
                            case measure=>have:=HJ2.out;have:=HJ6.out;have:=HJ8.out;have:=HK4.out;omega
                            case rel=>exact⟨(wrap64 ((wrap64 (10*x7_4))+(((bt a0 x8_4)-48) % 256))),(wrap64 (x8_4+1)),rz,rz,H',⟨by have:=HJ2.out;have:=HJ6.out;have:=HJ8.out;have:=HK4.out;omega⟩,dz⟩
                      · rw[if_neg c18]at H;exact absurd H (by simp)
                    · rw[if_neg c17]at H;have c17b0:=decide_eq_false c17;clear c17
                      by_cases c24:x6_6=1
                      · rw[if_pos c24]at H;have c24b0:=beq_iff_eq.mpr c24;have c24b1:=bne_eq_false_iff_eq.mpr c24;clear c24;simp only[Option.some.injEq,Prod.mk.injEq]at H;obtain⟨rfl,rfl⟩:=H
                        go_wp2
                        go_ret2
                        exact⟨rz,dz⟩
                      · rw[if_neg c24]at H;have c24b0:=beq_eq_false_iff_ne.mpr c24;have c24b1:=bne_iff_ne.mpr c24;simp only[Option.some.injEq,Prod.mk.injEq]at H;obtain⟨rfl,rfl⟩:=H
                        go_wp2
                        go_ret2
                        exact⟨rz,dz⟩
end
end Go.Proofs.YteiafijbgjgiaaaGreatDoor.A
