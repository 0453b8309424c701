/- Walks of the program's functions (printed, made shorter), each with what it computes. -/
import Derived.Test.YtggiijffaifajaaT06
namespace Go.Proofs.Ytggiijffaifajaa.A
set_option maxHeartbeats 8000000
set_option maxRecDepth 100000
open Go.RowKit Go.Proofs.YtggiijffaifajaaW.PrintWords Go.Proofs.YtggiijffaifajaaW.PrintLast Go.Proofs.YtggiijffaifajaaW.PrintMore
attribute [local go_sem] max2_int min2_int max_two min_two max_three min_three max_four min_four
set_option linter.unusedVariables false
set_option linter.unusedSimpArgs false
section
theorem blk_own_ {W W':World} {row:Option Nat} {B g:Nat} {cs:Array Value} {t:TypeId} {mk:Nat×Nat} (h:W.heap[g]?=some (.cells cs t mk)) (hg:W.grownBy W' row) (hr:∀ r,row=some r→B≤r∧∃ o:Obj,W.heap[r]?=some o∧o.isCells=false):W'.heap[g]?=some (.cells cs t mk):=by
  refine(hg.block g (blk_lt h) fun e=>?_).trans h;obtain⟨_,o,ho,hc⟩:=hr g e.symm;rw[h]at ho
  cases ho
  cases hc
theorem cells_new_ (W:World) (cs:List Value) (e:TypeId) (j:Nat) (u:Value) (h:cs[j]?=some u):(W.alloc (.cells cs.toArray e)).cell? ((⟨W.heap.size,0,none⟩:Addr).add j)=some u:=by
  rw[add_plain];refine(blk_cell (blk_new W (.cells cs.toArray e (0,0))) j).trans ?_
  simpa using h
theorem row_cells_ {W:World} {base:Nat} {e:TypeId} {size:Nat} {v:Value} {k:Nat} {xs:List Value} (h:W.ownsRow base e size v k xs) (j:Nat) (o:Obj) (hj:v.ownBlock=some j) (ho:W.heap[j]?=some o):o.isCells=true:=by
  rcases h.2 with ⟨rfl,_⟩|⟨g,cap,cur,rfl,hb,hgb,_⟩
  · simp[Value.ownBlock]at hj
  · obtain rfl:g=j:=by simpa [Value.ownBlock]using hj
    rw[hgb]at ho;cases ho;rfl
theorem row_turned_ {W W':World} {row:Option Nat} {base:Nat} {e:TypeId} {size:Nat} {v:Value} {k:Nat} {xs:List Value} (h:W.ownsRow base e size v k xs) (hg:W.grownBy W' row)
    (hrow:∀ r,row=some r→∃ o:Obj,W.heap[r]?=some o∧o.isCells=false):W'.ownsRow base e size v k xs:=by
  refine h.kept hg ?_
  rcases h.2 with ⟨rfl,_⟩|⟨g,cap,cur,rfl,_,hgb,_⟩
  · exact .inl rfl
  · refine .inr fun e'=>?_;obtain⟨o,ho,hw⟩:=hrow g (by simpa [Value.ownBlock]using e'.symm);rw[hgb]at ho;cases ho;cases hw
theorem row_far_ {W:World} {base:Nat} {e t:TypeId} {size:Nat} {v:Value} {k:Nat} {xs:List Value} {b:Nat} {cs:Array Value} (u:Value) (h:W.ownsRow base e size v k xs) (hb:W.heap[b]?=some (.cells cs t (0,0))) (hne:e≠t):(W.setCell ⟨b,0,none⟩ u).ownsRow base e size v k xs:=by
  refine h.kept (row:=some b) (by
    have hs:(W.setCell ⟨b,0,none⟩ u).heap.size=W.heap.size:=by simp[World.setCell]
    exact⟨rfl,rfl,rfl,Nat.le_of_eq hs.symm,fun k hk hne=>Below.heap_setCell W ⟨b,0,none⟩ u k (fun e=>hne (by rw[e]))⟩) ?_
  rcases h.2 with ⟨rfl,_⟩|⟨g,cap,cur,rfl,_,hgb,_⟩
  · exact .inl rfl
  · refine .inr fun e'=>?_;obtain rfl:g=b:=by simpa [Value.ownBlock]using e'
    rw[hgb]at hb
    injection hb with hb
    injection hb with _ hb
    exact hne hb
theorem row_ne_ {W:World} {base:Nat} {e t:TypeId} {size:Nat} {v:Value} {k:Nat} {xs:List Value} {b:Nat} {cs:Array Value} (h:W.ownsRow base e size v k xs) (hb:W.heap[b]?=some (.cells cs t (0,0))) (hne:e≠t):some b≠v.ownBlock:=by
  rcases h.2 with ⟨rfl,_⟩|⟨g,cap,cur,rfl,_,hgb,_⟩
  · simp[Value.ownBlock]
  · intro e';obtain rfl:b=g:=by simpa [Value.ownBlock]using e'
    rw[hgb]at hb
    injection hb with hb
    injection hb with _ hb
    exact hne hb
theorem row_base_ {W:World} {base:Nat} {e:TypeId} {size:Nat} {v:Value} {k:Nat} {xs:List Value} (h:W.ownsRow base e size v k xs) (j:Nat) (hj:v.ownBlock=some j):base≤j:=by
  rcases h.2 with ⟨rfl,_⟩|⟨g,cap,cur,rfl,hb,hgb,_⟩
  · simp[Value.ownBlock]at hj
  · obtain rfl:g=j:=by simpa [Value.ownBlock]using hj
    exact hb
attribute [local go_sem] Oper.semAt_some
def slices_AppendSeq_int_int.I (w:World) (pre:List Int) (W:World):Prop:=∃ (v:Value) (cs:List Value),W.heap[w.heap.size]?=some (.cells #[v] 25 (0,0))∧W.ownsRow w.heap.size 3 1 v pre.length cs∧(∀ (U:World) (ok:Nat→Prop),Reps (((Kd.int .i64)).M U w.heap.size ok) 1 pre cs)
theorem slices_AppendSeq_int_int.calls_own (gf:Nat) (lb:Array Value) (eg:∀ args w,(callFunc gf args).run Try.prog w= .ok (.enter gf args) w) (l:List Int) (n₀:Nat) (w:World) (hn:n₀≤w.heap.size) (hN:l.length*8≤140737488355328)
    (hseq:SeqStopsK Fence.wide 8 Try.prog gf lb (fun x_:Int=>(#[(.int .i64 (x_))]:Array Value)) (Below n₀) (fun ys=>ys=l) (fun _=>True) l.length w):
    Calls Try.prog 62 #[.slice none 0 0,.func (.func gf) #[] lb] w fun e w'=>∃ v,e= .returned v∧Kd.R (Kd.int .i64) 3 w' w.heap.size (fun _=>True) v l∧Below w.heap.size w w':=by
  refine(callsIn_wide (n:=9)).1 (callsIn_of_wp_marks Try.func62 rfl trivial ?_ rfl);simp only[Try.ntmps62,List.size_toArray,List.length_cons,List.length_nil,Nat.reduceAdd,Nat.reduceSub,Array.replicate_succ,Array.replicate_zero,List.push_toArray,List.append_toArray,List.nil_append,List.cons_append];have HS:=m0 hseq;have HN:=m0 hN;clear hseq hN
  gi_wp2
  obtain⟨W0,hW0⟩:∃ W0,w.alloc (.cells #[.slice none 0 0] 25)=W0:=⟨_,rfl⟩;have hz:W0.heap.size=w.heap.size+1:=by rw[← hW0];simp
  have hb0:Below w.heap.size w W0:=by rw[← hW0];exact below_alloc (Below.refl _ _) _
  have hk0:W0.heap[w.heap.size]?=some (.cells #[.slice none 0 0] 25 (0,0)):=by rw[← hW0];exact blk_new _ _
  rw [hW0];clear hW0;have HZ:=m0 hz;have HB0:=m0 hb0;obtain⟨i0,hi,hz0,hz1,hz2⟩:=info_parts info3;refine wpIn_rangeFunc_ownH (n:=9) rfl (by decide) (gf:=gf) (lb:=lb) rfl trivial eg HS.out (fun h k=>belowK_t h k) (fun W l o o' hl h hc hw=>belowK_b (w:=W0) (by omega) W l o o' hl h hc hw) hb0 (fun _=>rfl)
    (fun pre W=>slices_AppendSeq_int_int.I w pre W∧Below w.heap.size w W) (fun _ _ _=>False)
    (OwnFrom.and (fun s A B row hs hg hr=>by
      obtain⟨v,cs,h1,h2,h3⟩:=hs;exact⟨v,cs,blk_own_ h1 hg hr,row_turned_ h2 hg (fun r e=>(hr r e).2),h3⟩) (ownFrom_below (Nat.le_refl _) (by omega)))
    (fun _ _ _ _ _ hs _ _=>hs) ⟨⟨_,[],hk0,⟨rfl,.inl ⟨rfl,rfl⟩⟩,fun _ _=>Reps.none _ _⟩,hb0⟩
    (fun x a' W=>a'=({tmps:= #[.slice none 0 0,.func (.func gf) #[] lb,.pointer (some ⟨w.heap.size,0,none⟩),undef,.slice none 0 0,(.int .i64 (x)),.func (.func gf) #[] lb,(.int .i64 (x)),undef,undef,undef,undef,undef],defers:=[] }:Act)) (fun x a'=>fun _ _ _ _ hs _ _=>hs) ?assign ?body ?done ?stop
  case stop=>
    rintro D c pre W _ _ h _;exact h.elim
  case assign=>
    rintro l_ pre x W K ⟨⟨v,cs,h1,h2,h3⟩,hB⟩ hK;have HKK:=m0 hK;have HI:=m0 (show slices_AppendSeq_int_int.I w pre W∧Below w.heap.size w W from⟨⟨v,cs,h1,h2,h3⟩,hB⟩);clear hK h1 h2 h3 hB
    gi_wp2
    exact HKK.out _ _ (KeepsFrom.refl _ _) (Below.refl _ _) HI.out rfl
  case body=>
    rintro l_ pre x a' W hl hrec ⟨⟨v,cs,h1,h2,h3⟩,hB⟩ rfl hlen;have hcv:W.cell? ⟨w.heap.size,0,none⟩=some v:=(blk_cell h1 0).trans rfl;have hfv:=blk_frozen h1 0;have hlr:cs.length=pre.length*1:=h2.1;have hnl:=HN.out;have hsz:=hB.size;have H1:=m0 h1;have H3:=m0 h3;have HBB:=m0 hB;have HLEN:=m0 hlen;clear h1 h3 hB hl hrec hlen hnl hlr
    gi_wp2_with (first
      | (gi_at_builtin;refine wpListIn_append_own _ rfl _ _ 25 rfl w.heap.size 3 i0 (.int .i64 0) 1 8 Try.underlying25 hi hz0 hz1 hz2 rfl (by decide) v pre.length cs rfl (h2.alloc _) ⟨W.heap.size,0,none⟩ 1 1 [.int .i64 (x)] rfl rfl (cells_new_ W _ 3) (by simp[Value.oneCell']) (by have:=HLEN.out;have:=HN.out;unfold maxLen;omega) (by have:=HLEN.out;have:=HN.out;omega) (by simp;omega) ?_;intro v' w3 hown' hg3 hnil3
         have hv3:w3.heap[w.heap.size]?=some (.cells #[v] 25 (0,0)):=(hg3.block _ (by simp;have:=blk_lt H1.out;omega) (row_ne_ h2 H1.out (by decide))).trans (blk_alloc H1.out _);have hcv3:w3.cell? ⟨w.heap.size,0,none⟩=some v:=(blk_cell hv3 0).trans rfl;have hfv3:=blk_frozen hv3 0;obtain⟨g',cap',cur',rfl,hbase',hgb',hr1,hr2,hr3,hr4⟩:∃ g' cap' cur',v'= .slice (some ⟨g',0,none⟩) (pre.length+1) cap'∧w.heap.size≤g'∧w3.heap[g']?=some (.cells cur' 3 (0,0))∧pre.length+1≤cap'∧cap'≤maxLen∧cur'.size=cap'*1∧cur'.toList.take ((pre.length+1)*1)=cs++ [.int .i64 (x)]:=by
           rcases hown'.2 with ⟨_,h0⟩|h'
           · exact absurd h0 (by omega)
           · exact h'
         have HV3:=m0 hv3;have HOWN:=m0 hown';have HG3:=m0 hg3;clear hv3 hown' hg3 hnil3 hbase' hgb' hr1 hr2 hr3 hr4))
    have hgA:W.grownBy (W.alloc (.cells ([.int .i64 (x)]:List Value).toArray 3)) none:=World.grownBy_alloc W _ none;have hbA:Below w.heap.size W (W.alloc (.cells ([.int .i64 (x)]:List Value).toArray 3)):=(Below.refl _ _).alloc hsz _;have hb3:Below w.heap.size W w3:=hbA.grown HG3.out (by simp;omega) (fun k e=>row_base_ h2 k e);have hb4:=hb3.setCell (p:=⟨w.heap.size,0,none⟩) (Nat.le_refl _) (.slice (some ⟨g',0,none⟩) (pre.length+1) cap');refine⟨((((KeepsOthers.alloc W (.cells ([.int .i64 (x)]:List Value).toArray 3)).trans (KeepsOthers.of_grownBy HG3.out (row_cells_ (h2.alloc _)))).trans (KeepsOthers.setCell _ _ _)).from _),hb4.mono hn,⟨.slice (some ⟨g',0,none⟩) (pre.length+1) cap',cs++ [.int .i64 (x)],?_,?_,?_⟩,HBB.out.trans hb4⟩
    · exact blk_put HV3.out 0 _ rfl
    · have:=row_far_ (.slice (some ⟨g',0,none⟩) (pre.length+1) cap') HOWN.out HV3.out (by decide)
      simpa using this
    · intro U ok;exact Reps.snoc (H3.out U ok) (rfl) rfl
  case done=>
    rintro D ys W hD rfl ⟨⟨v,cs,h1,h2,h3⟩,hB⟩ hK;have hcv:W.cell? ⟨w.heap.size,0,none⟩=some v:=(blk_cell h1 0).trans rfl;have hfv:=blk_frozen h1 0;have H1:=m0 h1;have H2:=m0 h2;have H3:=m0 h3;have HBB:=m0 hB;clear h1 h2 h3 hB
    gi_wp2
    refine⟨by simp,.inl ⟨_,_,rfl,run_takeDeferred hK,?_⟩⟩;have hgD:=grownBy_putObj' W D (.deferred none);refine⟨_,results_tmp rfl _ _ _,v,rfl,⟨fun _ _=>trivial,cs,row_turned_ H2.out hgD (fun r e=>by cases e;exact⟨_,hK,rfl⟩),H3.out _ _⟩,HBB.out.grown hgD HBB.out.size (fun k e=>by cases e;omega)⟩
end
section
attribute [local go_sem] Oper.semAt_some
def api_CloudLayer_60.I (w:World) (pre:List S42) (W:World):Prop:=∃ (v:Value) (cs:List Value),W.heap[w.heap.size]?=some (.cells #[v] 40 (0,0))∧W.ownsRow w.heap.size 42 3 v pre.length cs∧(∀ (U:World) (ok:Nat→Prop),Reps ((k42).M U w.heap.size ok) 3 pre cs)
theorem api_CloudLayer_60.calls_own (gf:Nat) (lb:Array Value) (eg:∀ args w,(callFunc gf args).run Try.prog w= .ok (.enter gf args) w) (l:List S42) (n₀:Nat) (w:World) (hn:n₀≤w.heap.size) (hN:l.length*24≤140737488355328)
    (hseq:SeqStopsK Fence.wide 8 Try.prog gf lb (fun x_:S42=>(#[(.agg #[.int .i64 (x_).f0,.int .i64 (x_).f1,.int .i64 (x_).f2])]:Array Value)) (Below n₀) (fun ys=>ys=l) (fun _=>True) l.length w):
    Calls Try.prog 60 #[.slice none 0 0,.func (.func gf) #[] lb] w fun e w'=>∃ v,e= .returned v∧Kd.R k42 42 w' w.heap.size (fun _=>True) v l∧Below w.heap.size w w':=by
  refine(callsIn_wide (n:=9)).1 (callsIn_of_wp_marks Try.func60 rfl trivial ?_ rfl);simp only[Try.ntmps60,List.size_toArray,List.length_cons,List.length_nil,Nat.reduceAdd,Nat.reduceSub,Array.replicate_succ,Array.replicate_zero,List.push_toArray,List.append_toArray,List.nil_append,List.cons_append];have HS:=m0 hseq;have HN:=m0 hN;clear hseq hN
  gi_wp2
  obtain⟨W0,hW0⟩:∃ W0,w.alloc (.cells #[.slice none 0 0] 40)=W0:=⟨_,rfl⟩;have hz:W0.heap.size=w.heap.size+1:=by rw[← hW0];simp
  have hb0:Below w.heap.size w W0:=by rw[← hW0];exact below_alloc (Below.refl _ _) _
  have hk0:W0.heap[w.heap.size]?=some (.cells #[.slice none 0 0] 40 (0,0)):=by rw[← hW0];exact blk_new _ _
  rw [hW0];clear hW0;have HZ:=m0 hz;have HB0:=m0 hb0;obtain⟨i0,hi,hz0,hz1,hz2⟩:=info_parts info42;refine wpIn_rangeFunc_ownH (n:=9) rfl (by decide) (gf:=gf) (lb:=lb) rfl trivial eg HS.out (fun h k=>belowK_t h k) (fun W l o o' hl h hc hw=>belowK_b (w:=W0) (by omega) W l o o' hl h hc hw) hb0 (fun _=>rfl)
    (fun pre W=>api_CloudLayer_60.I w pre W∧Below w.heap.size w W) (fun _ _ _=>False)
    (OwnFrom.and (fun s A B row hs hg hr=>by
      obtain⟨v,cs,h1,h2,h3⟩:=hs;exact⟨v,cs,blk_own_ h1 hg hr,row_turned_ h2 hg (fun r e=>(hr r e).2),h3⟩) (ownFrom_below (Nat.le_refl _) (by omega)))
    (fun _ _ _ _ _ hs _ _=>hs) ⟨⟨_,[],hk0,⟨rfl,.inl ⟨rfl,rfl⟩⟩,fun _ _=>Reps.none _ _⟩,hb0⟩
    (fun x a' W=>∃ gx:Nat,a'=({tmps:= #[.slice none 0 0,.func (.func gf) #[] lb,.pointer (some ⟨w.heap.size,0,none⟩),undef,.slice none 0 0,.pointer (some ⟨gx,0,none⟩),.func (.func gf) #[] lb,(.agg #[.int .i64 (x).f0,.int .i64 (x).f1,.int .i64 (x).f2]),undef,undef,undef,undef,undef],defers:=[] }:Act)∧W.heap[gx]?=some (.cells #[.int .i64 x.f0,.int .i64 x.f1,.int .i64 x.f2] 42 (0,0))) (fun x a'=>fun _ A B row hs hg hr=>by obtain⟨gx,h1,h2⟩:=hs;exact⟨gx,h1,blk_own_ h2 hg hr⟩) ?assign ?body ?done ?stop
  case stop=>
    rintro D c pre W _ _ h _;exact h.elim
  case assign=>
    rintro l_ pre x W K ⟨⟨v,cs,h1,h2,h3⟩,hB⟩ hK;have HKK:=m0 hK;have HI:=m0 (show api_CloudLayer_60.I w pre W∧Below w.heap.size w W from⟨⟨v,cs,h1,h2,h3⟩,hB⟩);clear hK h1 h2 h3 hB
    gi_wp2
    obtain⟨⟨v,cs,h1,h2,h3⟩,hB⟩:=HI.out;exact HKK.out _ _ ((KeepsOthers.alloc _ _).from _) ((Below.refl _ _).alloc (Nat.le_trans hn hB.size) _) ⟨⟨v,cs,blk_alloc h1 _,h2.alloc _,h3⟩,hB.alloc hB.size _⟩ ⟨_,rfl,blk_new _ _⟩
  case body=>
    rintro l_ pre x a' W hl hrec ⟨⟨v,cs,h1,h2,h3⟩,hB⟩ ⟨gx,rfl,hx⟩ hlen;have hcv:W.cell? ⟨w.heap.size,0,none⟩=some v:=(blk_cell h1 0).trans rfl;have hfv:=blk_frozen h1 0;have hlr:cs.length=pre.length*3:=h2.1;have hnl:=HN.out;have hsz:=hB.size;have H1:=m0 h1;have H3:=m0 h3;have HBB:=m0 hB;have HLEN:=m0 hlen;clear h1 h3 hB hl hrec hlen hnl hlr;have hx0:W.cell? ⟨gx,0,none⟩=some (.int .i64 x.f0):=(blk_cell hx 0).trans rfl;have hx1:W.cell? ⟨gx,1,none⟩=some (.int .i64 x.f1):=(blk_cell hx 1).trans rfl;have hx2:W.cell? ⟨gx,2,none⟩=some (.int .i64 x.f2):=(blk_cell hx 2).trans rfl;clear hx
    gi_wp2_with (first
      | (gi_at_builtin;refine wpListIn_append_own _ rfl _ _ 40 rfl w.heap.size 42 i0 (.agg #[(.int .i64 0),(.int .i64 0),(.int .i64 0)]) 3 24 Try.underlying40 hi hz0 hz1 hz2 rfl (by decide) v pre.length cs rfl (h2.alloc _) ⟨W.heap.size,0,none⟩ 1 1 [.int .i64 (x).f0,.int .i64 (x).f1,.int .i64 (x).f2] rfl rfl (cells_new_ W _ 42) (by simp[Value.oneCell']) (by have:=HLEN.out;have:=HN.out;unfold maxLen;omega) (by have:=HLEN.out;have:=HN.out;omega) (by simp;omega) ?_;intro v' w3 hown' hg3 hnil3
         have hv3:w3.heap[w.heap.size]?=some (.cells #[v] 40 (0,0)):=(hg3.block _ (by simp;have:=blk_lt H1.out;omega) (row_ne_ h2 H1.out (by decide))).trans (blk_alloc H1.out _);have hcv3:w3.cell? ⟨w.heap.size,0,none⟩=some v:=(blk_cell hv3 0).trans rfl;have hfv3:=blk_frozen hv3 0;obtain⟨g',cap',cur',rfl,hbase',hgb',hr1,hr2,hr3,hr4⟩:∃ g' cap' cur',v'= .slice (some ⟨g',0,none⟩) (pre.length+1) cap'∧w.heap.size≤g'∧w3.heap[g']?=some (.cells cur' 42 (0,0))∧pre.length+1≤cap'∧cap'≤maxLen∧cur'.size=cap'*3∧cur'.toList.take ((pre.length+1)*3)=cs++ [.int .i64 (x).f0,.int .i64 (x).f1,.int .i64 (x).f2]:=by
           rcases hown'.2 with ⟨_,h0⟩|h'
           · exact absurd h0 (by omega)
           · exact h'
         have HV3:=m0 hv3;have HOWN:=m0 hown';have HG3:=m0 hg3;clear hv3 hown' hg3 hnil3 hbase' hgb' hr1 hr2 hr3 hr4))
    have hgA:W.grownBy (W.alloc (.cells ([.int .i64 (x).f0,.int .i64 (x).f1,.int .i64 (x).f2]:List Value).toArray 42)) none:=World.grownBy_alloc W _ none;have hbA:Below w.heap.size W (W.alloc (.cells ([.int .i64 (x).f0,.int .i64 (x).f1,.int .i64 (x).f2]:List Value).toArray 42)):=(Below.refl _ _).alloc hsz _;have hb3:Below w.heap.size W w3:=hbA.grown HG3.out (by simp;omega) (fun k e=>row_base_ h2 k e);have hb4:=hb3.setCell (p:=⟨w.heap.size,0,none⟩) (Nat.le_refl _) (.slice (some ⟨g',0,none⟩) (pre.length+1) cap');refine⟨((((KeepsOthers.alloc W (.cells ([.int .i64 (x).f0,.int .i64 (x).f1,.int .i64 (x).f2]:List Value).toArray 42)).trans (KeepsOthers.of_grownBy HG3.out (row_cells_ (h2.alloc _)))).trans (KeepsOthers.setCell _ _ _)).from _),hb4.mono hn,⟨.slice (some ⟨g',0,none⟩) (pre.length+1) cap',cs++ [.int .i64 (x).f0,.int .i64 (x).f1,.int .i64 (x).f2],?_,?_,?_⟩,HBB.out.trans hb4⟩
    · exact blk_put HV3.out 0 _ rfl
    · have:=row_far_ (.slice (some ⟨g',0,none⟩) (pre.length+1) cap') HOWN.out HV3.out (by decide)
      simpa using this
    · intro U ok;exact Reps.snoc (H3.out U ok) (k42_mkM _ _ _ _) rfl
  case done=>
    rintro D ys W hD rfl ⟨⟨v,cs,h1,h2,h3⟩,hB⟩ hK;have hcv:W.cell? ⟨w.heap.size,0,none⟩=some v:=(blk_cell h1 0).trans rfl;have hfv:=blk_frozen h1 0;have H1:=m0 h1;have H2:=m0 h2;have H3:=m0 h3;have HBB:=m0 hB;clear h1 h2 h3 hB
    gi_wp2
    refine⟨by simp,.inl ⟨_,_,rfl,run_takeDeferred hK,?_⟩⟩;have hgD:=grownBy_putObj' W D (.deferred none);refine⟨_,results_tmp rfl _ _ _,v,rfl,⟨fun _ _=>trivial,cs,row_turned_ H2.out hgD (fun r e=>by cases e;exact⟨_,hK,rfl⟩),H3.out _ _⟩,HBB.out.grown hgD HBB.out.size (fun k e=>by cases e;omega)⟩
end
section
theorem api_CloudLayer_45.calls_own (gf:Nat) (lb:Array Value) (eg:∀ args w,(callFunc gf args).run Try.prog w= .ok (.enter gf args) w) (l:List S42) (n₀:Nat) (w:World) (hn:n₀≤w.heap.size) (hN:l.length*24≤140737488355328)
  (hseq:SeqStopsK Fence.wide 8 Try.prog gf lb (fun x_:S42=>(#[(.agg #[.int .i64 (x_).f0,.int .i64 (x_).f1,.int .i64 (x_).f2])]:Array Value)) (Below n₀) (fun ys=>ys=l) (fun _=>True) l.length w):
  Calls Try.prog 45 #[.func (.func gf) #[] lb] w fun e w'=>∃ v,e= .returned v∧Kd.R k42 42 w' w.heap.size (fun _=>True) v l∧Below w.heap.size w w':=by
 have HC:=m0 (api_CloudLayer_60.calls_own gf lb eg l n₀ w hn hN hseq);clear hseq hn hN eg;go_enter Try.func45,Try.ntmps45
 go_wp2_with (first|(go_at_call 60;refine HC.out.mono ?_;rintro e w1 ⟨v,rfl,ho,hb⟩;have HO:=m0 ho;have HB:=m0 hb;clear ho hb))
 go_ret
 exact⟨v,rfl,HO.out,HB.out⟩
end
section
def cmp_isNaN_int.f (a0:Int):Option (Bool):=some (a0 != a0)
theorem cmp_isNaN_int.calls (a0:Int) (r:Bool) (w:World) (H:cmp_isNaN_int.f a0=some r):
  Calls Try.prog 48 #[.int .i64 a0] w fun e w'=>e= .returned (.bool r)∧Drawn0 w w':=by
 unfold cmp_isNaN_int.f at H;obtain rfl:=Option.some.inj H;go_enter Try.func48,Try.ntmps48
 go_wp2
 go_ret
 exact⟨rz,by repeat(first|exact Drawn0.refl _|apply Drawn0.step)⟩
end
section
def cmp_Compare_int.f (a0:Int) (a1:Int):Option (Int):=(cmp_isNaN_int.f a0).bind fun t130=>((cmp_isNaN_int.f a1).bind fun t131=>(if t130=true then(if t131=true then(some 0)else(some (-1)))else(if t131=true then(some 1)else(if a0<a1 then(some (-1))else(if a0>a1 then(some 1)else(some 0))))))
theorem cmp_Compare_int.calls (a0:Int) (a1:Int) (r:Int) (w:World) (H:cmp_Compare_int.f a0 a1=some r):
  Calls Try.prog 31 #[.int .i64 a0,.int .i64 a1] w fun e w'=>e= .returned (.int .i64 r)∧Drawn0 w w':=by
 unfold cmp_Compare_int.f at H;replace H:=oa H;obtain⟨t130,A3,H⟩:=H;(try dsimp only at H);replace H:=oa H;obtain⟨t131,A4,H⟩:=H;(try dsimp only at H)
 by_cases c5:t130=true
 ·subst c5;rw[if_pos rfl]at H
  by_cases c6:t131=true
  ·subst c6;rw[if_pos rfl]at H;obtain rfl:=Option.some.inj H;go_enter Try.func31,Try.ntmps31
   go_wp2_with (first|((with_reducible refine gc 48 rfl ?_);refine gl (some 8) Try.func48 #[.int .i64 a0] ?_;(with_reducible refine(cmp_isNaN_int.calls a0 true _ A3.out).mono ?_);rintro e w' ⟨rfl,⟨nd,rfl⟩⟩;refine⟨_,rfl,?_⟩)|((with_reducible refine gc 48 rfl ?_);refine gl (some 10) Try.func48 #[.int .i64 a1] ?_;(with_reducible refine(cmp_isNaN_int.calls a1 true _ A4.out).mono ?_);rintro e w' ⟨rfl,⟨nd,rfl⟩⟩;refine⟨_,rfl,?_⟩))
   go_ret
   exact⟨rz,by repeat(first|exact Drawn0.refl _|apply Drawn0.step)⟩
  ·replace c6:=Bool.eq_false_iff.mpr c6;subst c6;rw[if_neg (show ¬ (false=true) by decide)]at H;obtain rfl:=Option.some.inj H;go_enter Try.func31,Try.ntmps31
   go_wp2_with (first|((with_reducible refine gc 48 rfl ?_);refine gl (some 8) Try.func48 #[.int .i64 a0] ?_;(with_reducible refine(cmp_isNaN_int.calls a0 true _ A3.out).mono ?_);rintro e w' ⟨rfl,⟨nd,rfl⟩⟩;refine⟨_,rfl,?_⟩)|((with_reducible refine gc 48 rfl ?_);refine gl (some 10) Try.func48 #[.int .i64 a1] ?_;(with_reducible refine(cmp_isNaN_int.calls a1 false _ A4.out).mono ?_);rintro e w' ⟨rfl,⟨nd,rfl⟩⟩;refine⟨_,rfl,?_⟩))
   go_ret
   exact⟨rz,by repeat(first|exact Drawn0.refl _|apply Drawn0.step)⟩
 ·replace c5:=Bool.eq_false_iff.mpr c5;subst c5;rw[if_neg (show ¬ (false=true) by decide)]at H
  by_cases c7:t131=true
  ·subst c7;rw[if_pos rfl]at H;obtain rfl:=Option.some.inj H;go_enter Try.func31,Try.ntmps31
   go_wp2_with (first|((with_reducible refine gc 48 rfl ?_);refine gl (some 8) Try.func48 #[.int .i64 a0] ?_;(with_reducible refine(cmp_isNaN_int.calls a0 false _ A3.out).mono ?_);rintro e w' ⟨rfl,⟨nd,rfl⟩⟩;refine⟨_,rfl,?_⟩)|((with_reducible refine gc 48 rfl ?_);refine gl (some 10) Try.func48 #[.int .i64 a1] ?_;(with_reducible refine(cmp_isNaN_int.calls a1 true _ A4.out).mono ?_);rintro e w' ⟨rfl,⟨nd,rfl⟩⟩;refine⟨_,rfl,?_⟩))
   go_ret
   exact⟨rz,by repeat(first|exact Drawn0.refl _|apply Drawn0.step)⟩
  ·replace c7:=Bool.eq_false_iff.mpr c7;subst c7;rw[if_neg (show ¬ (false=true) by decide)]at H
   by_cases c8:a0<a1
   ·rw [if_pos c8]at H;have c8b0:=decide_eq_true c8;clear c8;obtain rfl:=Option.some.inj H;go_enter Try.func31,Try.ntmps31
    go_wp2_with (first|((with_reducible refine gc 48 rfl ?_);refine gl (some 8) Try.func48 #[.int .i64 a0] ?_;(with_reducible refine(cmp_isNaN_int.calls a0 false _ A3.out).mono ?_);rintro e w' ⟨rfl,⟨nd,rfl⟩⟩;refine⟨_,rfl,?_⟩)|((with_reducible refine gc 48 rfl ?_);refine gl (some 10) Try.func48 #[.int .i64 a1] ?_;(with_reducible refine(cmp_isNaN_int.calls a1 false _ A4.out).mono ?_);rintro e w' ⟨rfl,⟨nd,rfl⟩⟩;refine⟨_,rfl,?_⟩))
    go_ret
    exact⟨rz,by repeat(first|exact Drawn0.refl _|apply Drawn0.step)⟩
   ·rw [if_neg c8]at H;have c8b0:=decide_eq_false c8;clear c8
    by_cases c9:a0>a1
    ·rw [if_pos c9]at H;have c9b0:=decide_eq_true c9;clear c9;obtain rfl:=Option.some.inj H;go_enter Try.func31,Try.ntmps31
     go_wp2_with (first|((with_reducible refine gc 48 rfl ?_);refine gl (some 8) Try.func48 #[.int .i64 a0] ?_;(with_reducible refine(cmp_isNaN_int.calls a0 false _ A3.out).mono ?_);rintro e w' ⟨rfl,⟨nd,rfl⟩⟩;refine⟨_,rfl,?_⟩)|((with_reducible refine gc 48 rfl ?_);refine gl (some 10) Try.func48 #[.int .i64 a1] ?_;(with_reducible refine(cmp_isNaN_int.calls a1 false _ A4.out).mono ?_);rintro e w' ⟨rfl,⟨nd,rfl⟩⟩;refine⟨_,rfl,?_⟩))
     go_ret
     exact⟨rz,by repeat(first|exact Drawn0.refl _|apply Drawn0.step)⟩
    ·rw [if_neg c9]at H;have c9b0:=decide_eq_false c9;clear c9;obtain rfl:=Option.some.inj H;go_enter Try.func31,Try.ntmps31
     go_wp2_with (first|((with_reducible refine gc 48 rfl ?_);refine gl (some 8) Try.func48 #[.int .i64 a0] ?_;(with_reducible refine(cmp_isNaN_int.calls a0 false _ A3.out).mono ?_);rintro e w' ⟨rfl,⟨nd,rfl⟩⟩;refine⟨_,rfl,?_⟩)|((with_reducible refine gc 48 rfl ?_);refine gl (some 10) Try.func48 #[.int .i64 a1] ?_;(with_reducible refine(cmp_isNaN_int.calls a1 false _ A4.out).mono ?_);rintro e w' ⟨rfl,⟨nd,rfl⟩⟩;refine⟨_,rfl,?_⟩))
     go_ret
     exact⟨rz,by repeat(first|exact Drawn0.refl _|apply Drawn0.step)⟩
end
section
def L_CeilingOf_1.f (a0_0:Int) (a0_1:Int) (a0_2:Int) (a1_0:Int) (a1_1:Int) (a1_2:Int):Option (Int):=(cmp_Compare_int.f a0_0 a1_0).bind fun t134=>(some t134)
theorem L_CeilingOf_1.calls (a0_0:Int) (a0_1:Int) (a0_2:Int) (a1_0:Int) (a1_1:Int) (a1_2:Int) (r:Int) (w:World) (H:L_CeilingOf_1.f a0_0 a0_1 a0_2 a1_0 a1_1 a1_2=some r):
  Calls Try.prog 30 #[.agg #[.int .i64 a0_0,.int .i64 a0_1,.int .i64 a0_2],.agg #[.int .i64 a1_0,.int .i64 a1_1,.int .i64 a1_2]] w fun e w'=>e= .returned (.int .i64 r)∧Below w.heap.size w w':=by
 have hu42:=Try.underlying42;have HB:=m0 (Below.refl w.heap.size w);unfold L_CeilingOf_1.f at H;replace H:=oa H;obtain⟨t134,A3,H⟩:=H;(try dsimp only at H);obtain rfl:=Option.some.inj H;go_enter Try.func30,Try.ntmps30
 go_wp2_with (first|((with_reducible refine ga 2 rfl ?_);refine be 2 42 #[.int .i64 a0_0,.int .i64 a0_1,.int .i64 a0_2] ?_;intro gb132 hg w4 hbox hb;have BK132:=m0 hbox;have GE132:=gw w hg;replace HB:=sb HB hb;clear hb hbox hg)|((with_reducible refine ga 3 rfl ?_);refine be 3 42 #[.int .i64 a1_0,.int .i64 a1_1,.int .i64 a1_2] ?_;intro gb133 hg w5 hbox hb;have BK133:=m0 hbox;have GE133:=gw w hg;replace HB:=sb HB hb;have NB132_133:=nl BK132 hg;have NB133_132:=ng (nl BK132 hg);replace BK132:=bb BK132 hb;clear hb hbox hg;have hnb6:=NB132_133.out;have hnc6:=NB133_132.out;obtain⟨_,_,_,_,_,_⟩:=b3 BK132;obtain⟨_,_,_,_,_,_⟩:=b3 BK133)|((with_reducible refine gc 31 rfl ?_);refine gl (some 9) Try.func31 #[.int .i64 a0_0,.int .i64 a1_0] ?_;(with_reducible refine(cmp_Compare_int.calls a0_0 a1_0 t134 _ A3.out).mono ?_);rintro e w' ⟨rfl,⟨nd,rfl⟩⟩;refine⟨_,rfl,?_⟩))
 go_ret
 exact ez
end
section
mutual
def api_CloudLayer_CeilingOf_1_107.l0:Nat→List (S42)→Int→Int→Int→Option ((List (S42)))
  |0,_,_,_,_=>none
  |k+1,x0,x1,x2,x8=>if x8<x2 then(api_CloudLayer_CeilingOf_1_107.l1 k x0 x1 x2 x8 x8)else(some x0)
def api_CloudLayer_CeilingOf_1_107.l1:Nat→List (S42)→Int→Int→Int→Int→Option ((List (S42)))
  |0,_,_,_,_,_=>none
  |k+1,x0,x1,x2,x8,x9=>if x9>x1 then(if 0≤x9 then(if x9<(x0.length:Int)then(if 0≤(wrap64 (x9-1))then(if(wrap64 (x9-1))<(x0.length:Int)then((L_CeilingOf_1.f ((rd_T42 x0 x9).f0) ((rd_T42 x0 x9).f1) ((rd_T42 x0 x9).f2) ((rd_T42 x0 (wrap64 (x9-1))).f0) ((rd_T42 x0 (wrap64 (x9-1))).f1) ((rd_T42 x0 (wrap64 (x9-1))).f2)).bind fun t137=>(if t137<0 then(api_CloudLayer_CeilingOf_1_107.l1 k ((x0.set (x9:Int).toNat (⟨(rd_T42 x0 (wrap64 (x9-1))).f0,(rd_T42 x0 (wrap64 (x9-1))).f1,(rd_T42 x0 (wrap64 (x9-1))).f2⟩:S42)).set ((wrap64 (x9-1)):Int).toNat (⟨(rd_T42 x0 x9).f0,(rd_T42 x0 x9).f1,(rd_T42 x0 x9).f2⟩:S42)) x1 x2 x8 (wrap64 (x9-1)))else(api_CloudLayer_CeilingOf_1_107.l0 k x0 x1 x2 (wrap64 (x8+1)))))else(none))else(none))else(none))else(none))else(api_CloudLayer_CeilingOf_1_107.l0 k x0 x1 x2 (wrap64 (x8+1)))
end
def api_CloudLayer_CeilingOf_1_107.f (k:Nat) (l0:List (S42)) (a1:Int) (a2:Int)  :Option ((List (S42))):=api_CloudLayer_CeilingOf_1_107.l0 k l0 a1 a2 (wrap64 (a1+1))
theorem api_CloudLayer_CeilingOf_1_107.mono_l:∀ k,(∀ y0 y1 y2 y3,LeO (api_CloudLayer_CeilingOf_1_107.l0 k y0 y1 y2 y3) (api_CloudLayer_CeilingOf_1_107.l0 (k+1) y0 y1 y2 y3))∧(∀ y0 y1 y2 y3 y4,LeO (api_CloudLayer_CeilingOf_1_107.l1 k y0 y1 y2 y3 y4) (api_CloudLayer_CeilingOf_1_107.l1 (k+1) y0 y1 y2 y3 y4))
  |0=>⟨fun _ _ _ _ r h=>by simp[api_CloudLayer_CeilingOf_1_107.l0]at h,fun _ _ _ _ _ r h=>by simp[api_CloudLayer_CeilingOf_1_107.l1]at h⟩
  | k + 1=>by
    obtain⟨ih0,ih1⟩:=api_CloudLayer_CeilingOf_1_107.mono_l k;refine⟨?_,?_⟩
    · intro y0 y1 y2 y3;unfold api_CloudLayer_CeilingOf_1_107.l0
      repeat' with_reducible first
        |exact ih0 ..
        |exact ih1 ..
        |exact LeO.refl ..
        |exact LeO.none ..
        |refine LeO.ite ?_ ?_
        |refine LeO.bind ?_ (fun _=>?_)
    · intro y0 y1 y2 y3 y4;unfold api_CloudLayer_CeilingOf_1_107.l1
      repeat' with_reducible first
        |exact ih0 ..
        |exact ih1 ..
        |exact LeO.refl ..
        |exact LeO.none ..
        |refine LeO.ite ?_ ?_
        |refine LeO.bind ?_ (fun _=>?_)
theorem api_CloudLayer_CeilingOf_1_107.mono:∀ a0 a1 a2 k,LeO (api_CloudLayer_CeilingOf_1_107.f k a0 a1 a2) (api_CloudLayer_CeilingOf_1_107.f (k+1) a0 a1 a2):=by
  intro a0 a1 a2 k;obtain⟨ih0,ih1⟩:=api_CloudLayer_CeilingOf_1_107.mono_l k;unfold api_CloudLayer_CeilingOf_1_107.f
  repeat' with_reducible first
    |exact ih0 ..
    |exact ih1 ..
    |exact LeO.refl ..
    |exact LeO.none ..
    |refine LeO.ite ?_ ?_
    |refine LeO.bind ?_ (fun _=>?_)
def api_CloudLayer_CeilingOf_1_107.T4:Bool×List (List Nat×List Nat):=(true,[([],[]),([],[]),([0,1],[0,1]),([2],[2]),([3],[3]),([3],[3]),([3],[3]),([5,6,3],[3,5,6]),([7,3],[3,7]),([3],[3]),([3],[3]),([10,3],[3,10]),([9,11,3],[3,9,11]),([12,3],[3,12]),([4,8,13,3,3],[3,4,8,13]),([14,3],[3,14]),([3,15],[3,15])])
def api_CloudLayer_CeilingOf_1_107.B4:List Nat:=[0,0,3,7,15,15,15,111,239,15,15,1039,3599,7695,16383,32767,65535]
theorem api_CloudLayer_CeilingOf_1_107.tab4:rtab .any (opsOf Try.f67 4)=api_CloudLayer_CeilingOf_1_107.T4:=by kernel_rfl
theorem api_CloudLayer_CeilingOf_1_107.bits4:waitsOk api_CloudLayer_CeilingOf_1_107.T4.2 api_CloudLayer_CeilingOf_1_107.B4=true:=by kernel_rfl
def api_CloudLayer_CeilingOf_1_107.T6:Bool×List (List Nat×List Nat):=(true,[([],[]),([],[]),([],[]),([],[]),([3],[3]),([],[]),([],[]),([6],[6]),([5,7],[5,7]),([8],[8]),([],[]),([],[]),([10,11],[10,11]),([12],[12]),([0,1,0,1,5,6,7,8,9,13],[0,1]),([14,9,0,1,5,6,7,8,9,13],[9,14]),([2,4,0,1,2,3,4,5,6,7,8,9,10,11,12,13,14,15],[2,4]),([16,13,15,0,1,2,3,4,5,6,7,8,9,10,11,12,13,14,15],[13,16])])
def api_CloudLayer_CeilingOf_1_107.B6:List Nat:=[0,0,0,0,8,0,0,64,224,480,0,0,3072,7168,16355,32739,65535,131071]
theorem api_CloudLayer_CeilingOf_1_107.tab6:rtab .any (opsOf Try.f67 6)=api_CloudLayer_CeilingOf_1_107.T6:=by kernel_rfl
theorem api_CloudLayer_CeilingOf_1_107.bits6:waitsOk api_CloudLayer_CeilingOf_1_107.T6.2 api_CloudLayer_CeilingOf_1_107.B6=true:=by kernel_rfl
theorem api_CloudLayer_CeilingOf_1_107.calls (k:Nat) (P0_:Nat→Prop) (u9000_:Value) (l0:List (S42)) (a1:Int) (a2:Int)  (r:List (S42)) (w0 w:World) (hB:Below w0.heap.size w0 w) (ho0:Kd.R k42 42 w w0.heap.size P0_ u9000_ l0) (H:api_CloudLayer_CeilingOf_1_107.f k l0 a1 a2=some r):
    Calls Try.prog 67 #[u9000_,.int .i64 a1,.int .i64 a2,.func (.func 30) #[] #[]] w fun e w'=>e= .returned (.tuple #[])∧Kd.R k42 42 w' w0.heap.size (fun k_=>(P0_ k_∨w.heap.size≤k_)) u9000_ r∧Below w0.heap.size w0 w'∧Kept w w' (fun k_=>P0_ k_):=by
  have hu42:=Try.underlying42;have HO0:=m0 (show Kd.R k42 42 w w0.heap.size (fun k_=>(P0_ k_∨w.heap.size≤k_)) u9000_ l0 from Kd.R_mono ho0 (fun k_ hk=>(.inl hk)));have HK:=m0 (Kept.refl w (fun k_=>P0_ k_));have HW0:=m0 hB.size;have HB:=m0 hB;clear hB;unfold api_CloudLayer_CeilingOf_1_107.f at H;have H':=m0 H;clear H;go_enter Try.func67,Try.ntmps67
  go_wp2
  (try simp only[Act.put,List.setIfInBounds_toArray,List.set_cons_zero,List.set_cons_succ])
  go_loopg [8] k (fun kq v8 w'=>∃ (x0_1:List (S42)) (x8_1:Int),v8= .int .i64 x8_1∧Aside0 (api_CloudLayer_CeilingOf_1_107.l0 kq x0_1 a1 a2 x8_1=some r)∧Aside0 (kq≤k)∧Aside0 (Kd.R k42 42 w' w0.heap.size (fun k_=>(P0_ k_∨w.heap.size≤k_)) u9000_ x0_1)∧Aside0 (Kept w w' (fun k_=>P0_ k_))∧Aside0 (Below w0.heap.size w0 w'))
  case atStart=>exact⟨(l0),(wrap64 (a1+1)),rz,H',⟨Nat.le_refl _⟩,⟨br HO0.out⟩,⟨by repeat(first|(with_reducible first|exact HK.out|apply Kept.alloc|apply Kept.drewN|apply Kept.drew)|exact HK.out)⟩,⟨bz⟩⟩
  case round =>
    clear H';obtain⟨x0_1,x8_1,rfl,HA,HK1,HO_0,HK,HB⟩:=hrel
    cases gk with
    |zero=>exact absurd HA.out (by simp[api_CloudLayer_CeilingOf_1_107.l0])
    | succ k1 =>
      have H:=HA.out;clear HA;simp only[api_CloudLayer_CeilingOf_1_107.l0]at H
      by_cases c5:x8_1<a2
      · rw [if_pos c5] at H;have c5b0:=decide_eq_true c5;clear c5;have H':=m0 H;clear H
        go_wp2
        (try simp only[Act.put,List.setIfInBounds_toArray,List.set_cons_zero,List.set_cons_succ])
        go_loopg [9] k1 (fun kq v9 w'=>∃ (x0_2:List (S42)) (x9_2:Int),v9= .int .i64 x9_2∧Aside0 (api_CloudLayer_CeilingOf_1_107.l1 kq x0_2 a1 a2 x8_1 x9_2=some r)∧Aside0 (kq≤k1)∧Aside0 (Kd.R k42 42 w' w0.heap.size (fun k_=>(P0_ k_∨w.heap.size≤k_)) u9000_ x0_2)∧Aside0 (Kept w w' (fun k_=>P0_ k_))∧Aside0 (Below w0.heap.size w0 w'))
        case atStart=>exact⟨(x0_1),(x8_1),rz,H',⟨Nat.le_refl _⟩,⟨br HO_0.out⟩,⟨by repeat(first|(with_reducible first|exact HK.out|apply Kept.alloc|apply Kept.drewN|apply Kept.drew)|exact HK.out)⟩,⟨bz⟩⟩
        case round =>
          clear H';obtain⟨x0_2,x9_2,rfl,HA,HK2,HO_0,HK,HB⟩:=hrel
          cases gk with
          |zero=>exact absurd HA.out (by simp[api_CloudLayer_CeilingOf_1_107.l1])
          | succ k2 =>
            have H:=HA.out;clear HA;simp only[api_CloudLayer_CeilingOf_1_107.l1]at H
            by_cases c6:x9_2>a1
            · rw [if_pos c6]at H;have c6b0:=decide_eq_true c6;clear c6
              by_cases c7:0≤x9_2
              · rw [if_pos c7]at H;have c7b0:=decide_eq_true c7;clear c7
                by_cases c8:x9_2<(x0_2.length:Int)
                · rw [if_pos c8]at H;have c8b0:=decide_eq_true c8;clear c8;obtain⟨ji9,hji9⟩:∃ j_:Int,(wrap64 (x9_2-1))=j_:=⟨_,rfl⟩;replace H:(if 0≤(ji9)then(if(ji9)<(x0_2.length:Int)then((L_CeilingOf_1.f ((rd_T42 x0_2 x9_2).f0) ((rd_T42 x0_2 x9_2).f1) ((rd_T42 x0_2 x9_2).f2) ((rd_T42 x0_2 (ji9)).f0) ((rd_T42 x0_2 (ji9)).f1) ((rd_T42 x0_2 (ji9)).f2)).bind fun t137=>(if t137<0 then(api_CloudLayer_CeilingOf_1_107.l1 k2 ((x0_2.set (x9_2:Int).toNat (⟨(rd_T42 x0_2 (ji9)).f0,(rd_T42 x0_2 (ji9)).f1,(rd_T42 x0_2 (ji9)).f2⟩:S42)).set ((ji9):Int).toNat (⟨(rd_T42 x0_2 x9_2).f0,(rd_T42 x0_2 x9_2).f1,(rd_T42 x0_2 x9_2).f2⟩:S42)) a1 a2 x8_1 ji9)else(api_CloudLayer_CeilingOf_1_107.l0 k2 x0_2 a1 a2 (wrap64 (x8_1+1)))))else(none))else(none))=some r:=by first|(rw[hji9]at H;exact H)|(simp only[hji9]at H ⊢;exact H)
                  have hji9w:(IntKind.i64.wrap (x9_2-1))=ji9:=(i64_w _).trans hji9
                  by_cases c10:0≤(ji9)
                  · rw [if_pos c10]at H;have c10b0:=decide_eq_true c10;clear c10
                    by_cases c11:(ji9)<(x0_2.length:Int)
                    · rw [if_pos c11]at H;have c11b0:=decide_eq_true c11;clear c11;replace H:=oa H;obtain⟨t137,A12,H⟩:=H;(try dsimp only at H)
                      by_cases c13:t137<0
                      · rw[if_pos c13]at H;have c13b0:=decide_eq_true c13;clear c13;obtain⟨y140,hy140⟩:∃ y_:List (S42),y_=(x0_2.set (x9_2:Int).toNat (⟨(rd_T42 x0_2 (ji9)).f0,(rd_T42 x0_2 (ji9)).f1,(rd_T42 x0_2 (ji9)).f2⟩:S42)):=⟨_,rfl⟩;replace H:(api_CloudLayer_CeilingOf_1_107.l1 k2 (y140.set ((ji9):Int).toNat (⟨(rd_T42 x0_2 x9_2).f0,(rd_T42 x0_2 x9_2).f1,(rd_T42 x0_2 x9_2).f2⟩:S42)) a1 a2 x8_1 ji9)=some r:=by first|(rw[hy140];with_reducible exact H)|(have H2_:=(Option.bind_some _ _).symm.trans H;rw[hy140];with_reducible exact H2_)|(have H2_:=(Option.bind_some _ _).symm.trans H;with_reducible exact H2_)|with_reducible exact H|(rw[hy140];exact H)|exact H
                        have Ny140:=m0 hy140;clear hy140;obtain⟨y141,hy141⟩:∃ y_:List (S42),y_=(y140.set ((ji9):Int).toNat (⟨(rd_T42 x0_2 x9_2).f0,(rd_T42 x0_2 x9_2).f1,(rd_T42 x0_2 x9_2).f2⟩:S42)):=⟨_,rfl⟩;replace H:(api_CloudLayer_CeilingOf_1_107.l1 k2 y141 a1 a2 x8_1 ji9)=some r:=by first|(rw[hy141];with_reducible exact H)|(have H2_:=(Option.bind_some _ _).symm.trans H;rw[hy141];with_reducible exact H2_)|(have H2_:=(Option.bind_some _ _).symm.trans H;with_reducible exact H2_)|with_reducible exact H|(rw[hy141];exact H)|exact H
                        have Ny141:=m0 hy141;clear hy141;have H':=m0 H;clear H
                        try go_wp2
                        replace HO_0:=m0 (Kd.R_drew HO_0.out);replace HK:=m0 (Kept.drew HK.out);replace HB:=sd HB;obtain⟨Ao17,co17,eo17⟩:=Kd.R_slice HO_0.out;subst eo17;have p135:0≤(x9_2:Int):=od;have q135:x9_2<(x0_2.length:Int):=od;obtain⟨ad135,e135,hx135_0,hx135_1,hx135_2⟩:=at_T42 (Kd.R_reads' HO_0.out).2.2 x9_2 p135 q135
                        cases e135
                        replace p135:=eq_true p135;replace q135:=eq_true q135;have p136:0≤((ji9):Int):=od;have q136:(ji9)<(x0_2.length:Int):=od;obtain⟨ad136,e136,hx136_0,hx136_1,hx136_2⟩:=at_T42 (Kd.R_reads' HO_0.out).2.2 (ji9) p136 q136;obtain rfl:ad135=ad136:=(by injection e136);replace p136:=eq_true p136;replace q136:=eq_true q136;refine start_ (n:=17) (S:=fun w'=>w'.cell? (ad135.add ((x9_2).toNat*3))=some (.int .i64 ((rd_T42 x0_2 x9_2).f0))∧w'.cell? ⟨(ad135.add ((x9_2).toNat*3)).block,(ad135.add ((x9_2).toNat*3)).off+1,none⟩=some (.int .i64 ((rd_T42 x0_2 x9_2).f1))∧w'.cell? ⟨(ad135.add ((x9_2).toNat*3)).block,(ad135.add ((x9_2).toNat*3)).off+2,none⟩=some (.int .i64 ((rd_T42 x0_2 x9_2).f2))∧w'.cell? (ad135.add (((ji9)).toNat*3))=some (.int .i64 ((rd_T42 x0_2 (ji9)).f0))∧w'.cell? ⟨(ad135.add (((ji9)).toNat*3)).block,(ad135.add (((ji9)).toNat*3)).off+1,none⟩=some (.int .i64 ((rd_T42 x0_2 (ji9)).f1))∧w'.cell? ⟨(ad135.add (((ji9)).toNat*3)).block,(ad135.add (((ji9)).toNat*3)).off+2,none⟩=some (.int .i64 ((rd_T42 x0_2 (ji9)).f2))) (ds:=[]) _ (by kernel_rfl) rfl rfl ⟨hx135_0,hx135_1,hx135_2,hx136_0,hx136_1,hx136_2⟩ (fun hH=>?_);refine with_tabW api_CloudLayer_CeilingOf_1_107.tab4 api_CloudLayer_CeilingOf_1_107.bits4 (fun HT_ HW_=>?_);generalize wr.drew=w16 at HO_0 HK HB hx135_0 hx135_1 hx135_2 hx136_0 hx136_1 hx136_2 hH ⊢;refine pZ 0 (some 18) (bs 17 1) HT_ ?_;refine pZ 1 (some 19) (bs 17 3) HT_ ?_;refine pZ 2 (some 20) (bs 17 7) HT_ ?_;refine pZ 3 (some 21) (bs 17 15) HT_ ?_;refine pZ 4 (some 22) (bs 17 31) HT_ ?_;refine pZ 5 (some 23) (bs 17 63) HT_ ?_;refine pZ 6 (some 24) (bs 17 127) HT_ ?_;refine pZ 7 (some 25) (bs 17 255) HT_ ?_;refine pZ 9 (some 27) (bs 17 767) HT_ ?_;refine pZ 10 (some 28) (bs 17 1791) HT_ ?_;refine pZ 11 (some 29) (bs 17 3839) HT_ ?_;refine pZ 12 (some 30) (bs 17 7935) HT_ ?_;refine takeZ 8 (some 26) (bs 17 8191) (tw HT_ HW_) hH ?_;refine takeZ 13 (some 31) (bs 17 16383) (tw HT_ HW_) hH ?_;refine oneZ 14 (some 32) (bs 17 32767) (o1 HT_) fun K hK=>?_;refine goesV_ 22 Try.func30 (by kernel_rfl) rfl #[.agg #[.int .i64 ((rd_T42 x0_2 x9_2).f0),.int .i64 ((rd_T42 x0_2 x9_2).f1),.int .i64 ((rd_T42 x0_2 x9_2).f2)],.agg #[.int .i64 ((rd_T42 x0_2 (ji9)).f0),.int .i64 ((rd_T42 x0_2 (ji9)).f1),.int .i64 ((rd_T42 x0_2 (ji9)).f2)]] (by rfl) rfl rfl (by rfl) (by(try simp only[List.map_toArray,List.map_cons,List.map_nil]);first|done|(simp only[hji9];rfl)|rfl|(simp only[List.length_drop,List.length_take];rfl)) ?_
                        with_reducible refine(L_CeilingOf_1.calls ((rd_T42 x0_2 x9_2).f0) ((rd_T42 x0_2 x9_2).f1) ((rd_T42 x0_2 x9_2).f2) ((rd_T42 x0_2 (ji9)).f0) ((rd_T42 x0_2 (ji9)).f1) ((rd_T42 x0_2 (ji9)).f2) t137 _ A12.out).mono ?_
                        rintro e w18 ⟨rfl,hb⟩;have HS0_:=(hb.cell (World.block_lt_of_cell? _ _ (hH.1))).trans (hH.1);have HS1_:=(hb.cell (World.block_lt_of_cell? _ _ (hH.2.1))).trans (hH.2.1);have HS2_:=(hb.cell (World.block_lt_of_cell? _ _ (hH.2.2.1))).trans (hH.2.2.1);have HS3_:=(hb.cell (World.block_lt_of_cell? _ _ (hH.2.2.2.1))).trans (hH.2.2.2.1);have HS4_:=(hb.cell (World.block_lt_of_cell? _ _ (hH.2.2.2.2.1))).trans (hH.2.2.2.2.1);have HS5_:=(hb.cell (World.block_lt_of_cell? _ _ (hH.2.2.2.2.2))).trans (hH.2.2.2.2.2);refine⟨_,rfl,?_⟩;replace HO_0:=rb HO_0 hb;replace HK:=m0 (Kept.below (S:=(fun k_=>P0_ k_)) (by repeat(first|(with_reducible first|exact HK.out|apply Kept.alloc|apply Kept.drewN|apply Kept.drew)|exact HK.out)) hb);replace HB:=sb HB hb
                        (try clear hb);refine hK.out _ _ ⟨HS0_,HS1_,HS2_,HS3_,HS4_,HS5_⟩ (fun hH=>?_);clear hK K;refine nz 32 ?_;refine pZ 15 (some 33) (bs 17 65535) HT_ ?_;refine pZ 16 (some 34) (bs 17 131071) HT_ ?_;refine done_ (done_of HT_.out (by kernel_rfl)) ?_
                        try go_wp2
                        replace HO_0:=m0 (Kd.R_drew HO_0.out);replace HK:=m0 (Kept.drew HK.out);replace HB:=sd HB;have p138:0≤((ji9):Int):=od;have q138:(ji9)<(x0_2.length:Int):=od;obtain⟨ad138,e138,hx138_0,hx138_1,hx138_2⟩:=at_T42 (Kd.R_reads' HO_0.out).2.2 (ji9) p138 q138;obtain rfl:ad135=ad138:=(by injection e138);replace p138:=eq_true p138;replace q138:=eq_true q138;have p139:0≤(x9_2:Int):=od;have q139:x9_2<(x0_2.length:Int):=od;obtain⟨ad139,e139,hx139_0,hx139_1,hx139_2⟩:=at_T42 (Kd.R_reads' HO_0.out).2.2 x9_2 p139 q139;obtain rfl:ad135=ad139:=(by injection e139);replace p139:=eq_true p139;replace q139:=eq_true q139;have p14:0≤(x9_2:Int):=od;have q14:(x9_2:Int)<((x0_2.length:Int):Int):=od;obtain⟨go14,co14,eo14,gb14,gl14,cl14,HG14⟩:=Kd.R_form HO_0.out (by omega)
                        (first|cases eo14|(injection eo14 with ea_ en_ ec_;(first|subst ea_|(injection ea_ with ea_;subst ea_));subst ec_;clear en_))
                        have GB14:=m0 gb14;have GG14:=m0 HG14;clear gb14 gl14 HG14;have HMgo14:=m0 (show(P0_ go14∨w.heap.size≤go14)from(HO_0.out.1 _ rfl))
                        (first|simp only[add_plain]at hx135_0|skip)
                        (first|simp only[add_plain]at hx135_1|skip)
                        (first|simp only[add_plain]at hx135_2|skip)
                        (first|simp only[add_plain]at hx136_0|skip)
                        (first|simp only[add_plain]at hx136_1|skip)
                        (first|simp only[add_plain]at hx136_2|skip)
                        (first|simp only[add_plain]at hx138_0|skip)
                        (first|simp only[add_plain]at hx138_1|skip)
                        (first|simp only[add_plain]at hx138_2|skip)
                        (first|simp only[add_plain]at hx139_0|skip)
                        (first|simp only[add_plain]at hx139_1|skip)
                        (first|simp only[add_plain]at hx139_2|skip)
                        obtain⟨ce14,hcl14,hM14,hcc14,hfr14⟩:=Kd.R_elem HO_0.out z42 (x9_2:Int) p14 q14;obtain rfl:=k42_openM hM14;have hx14_0:World.cell? _ ⟨go14,(x9_2:Int).toNat*3,none⟩=some (.int .i64 ((rd_T42 x0_2 x9_2).f0)):=hcc14 0 _ rfl;have hx14_1:World.cell? _ ⟨go14,(x9_2:Int).toNat*3+1,none⟩=some (.int .i64 ((rd_T42 x0_2 x9_2).f1)):=hcc14 1 _ rfl;have hx14_2:World.cell? _ ⟨go14,(x9_2:Int).toNat*3+2,none⟩=some (.int .i64 ((rd_T42 x0_2 x9_2).f2)):=hcc14 2 _ rfl;have hf14_0:World.frozen? _ ⟨go14,(x9_2:Int).toNat*3,none⟩=false:=hfr14 0;have hf14_1:World.frozen? _ ⟨go14,(x9_2:Int).toNat*3+1,none⟩=false:=hfr14 1;have hf14_2:World.frozen? _ ⟨go14,(x9_2:Int).toNat*3+2,none⟩=false:=hfr14 2;clear hcl14 hcc14 hfr14 hM14;replace p14:=eq_true p14;replace q14:=eq_true q14;obtain⟨ce20,hcl20,hM20,hcc20,hfr20⟩:=Kd.R_elem HO_0.out z42 (x9_2:Int) (od) (by have h_:(x9_2:Int)<((x0_2.length:Int):Int):=od;first|exact h_|(have e_:=(Kd.R_reads' HO_0.out).1;omega)|simpa using h_)
                        obtain rfl:=k42_openM hM20;have HP20:=(Kd.R_seg HO_0.out (x9_2:Int) (od) (by have h_:(x9_2:Int)<((x0_2.length:Int):Int):=od;first|exact h_|(have e_:=(Kd.R_reads' HO_0.out).1;omega)|simpa using h_) (seg:=[.int .i64 ((rd_T42 x0_2 (ji9)).f0),.int .i64 ((rd_T42 x0_2 (ji9)).f1),.int .i64 ((rd_T42 x0_2 (ji9)).f2)]) (j:=0) hcl20 hcc20 (show 3≤3 from by decide) (x':=(⟨(rd_T42 x0_2 (ji9)).f0,(rd_T42 x0_2 (ji9)).f1,(rd_T42 x0_2 (ji9)).f2⟩:S42)) (k42_mkM _ _ _ (⟨(rd_T42 x0_2 (ji9)).f0,(rd_T42 x0_2 (ji9)).f1,(rd_T42 x0_2 (ji9)).f2⟩:S42) ) (fun _ hk=>hk)).1
                        rw[← Ny140.out]at HP20;have HQ20:=m0 HP20;clear hcl20 hcc20 hfr20 hM20 HP20;have p15:0≤((ji9):Int):=od;have q15:((ji9):Int)<((x0_2.length:Int):Int):=od;obtain⟨ce15,hcl15,hM15,hcc15,hfr15⟩:=Kd.R_elem HQ20.out z42 ((ji9):Int) p15 q15;obtain rfl:=k42_openM hM15;have hx15_0:World.cell? _ ⟨go14,((ji9):Int).toNat*3,none⟩=some (.int .i64 ((rd_T42 y140 (ji9)).f0)):=hcc15 0 _ rfl;have hx15_1:World.cell? _ ⟨go14,((ji9):Int).toNat*3+1,none⟩=some (.int .i64 ((rd_T42 y140 (ji9)).f1)):=hcc15 1 _ rfl;have hx15_2:World.cell? _ ⟨go14,((ji9):Int).toNat*3+2,none⟩=some (.int .i64 ((rd_T42 y140 (ji9)).f2)):=hcc15 2 _ rfl;have hf15_0:World.frozen? _ ⟨go14,((ji9):Int).toNat*3,none⟩=false:=hfr15 0;have hf15_1:World.frozen? _ ⟨go14,((ji9):Int).toNat*3+1,none⟩=false:=hfr15 1;have hf15_2:World.frozen? _ ⟨go14,((ji9):Int).toNat*3+2,none⟩=false:=hfr15 2;clear hcl15 hcc15 hfr15 hM15;replace p15:=eq_true p15;replace q15:=eq_true q15;obtain⟨ce21,hcl21,hM21,hcc21,hfr21⟩:=Kd.R_elem HQ20.out z42 ((ji9):Int) (od) (by have h_:((ji9):Int)<((x0_2.length:Int):Int):=od;first|exact h_|(have e_:=(Kd.R_reads' HO_0.out).1;omega)|simpa using h_)
                        obtain rfl:=k42_openM hM21;have HP21:=(Kd.R_seg HQ20.out ((ji9):Int) (od) (by have h_:((ji9):Int)<((x0_2.length:Int):Int):=od;first|exact h_|(have e_:=(Kd.R_reads' HO_0.out).1;omega)|simpa using h_) (seg:=[.int .i64 ((rd_T42 x0_2 x9_2).f0),.int .i64 ((rd_T42 x0_2 x9_2).f1),.int .i64 ((rd_T42 x0_2 x9_2).f2)]) (j:=0) hcl21 hcc21 (show 3≤3 from by decide) (x':=(⟨(rd_T42 x0_2 x9_2).f0,(rd_T42 x0_2 x9_2).f1,(rd_T42 x0_2 x9_2).f2⟩:S42)) (k42_mkM _ _ _ (⟨(rd_T42 x0_2 x9_2).f0,(rd_T42 x0_2 x9_2).f1,(rd_T42 x0_2 x9_2).f2⟩:S42) ) (fun _ hk=>hk)).1
                        rw[← Ny141.out]at HP21;have HQ21:=m0 HP21;clear hcl21 hcc21 hfr21 hM21 HP21;refine start_ (n:=18) (S:=fun w'=>w'.cell? ⟨go14,(((ji9)).toNat*3),none⟩=some (.int .i64 ((rd_T42 x0_2 (ji9)).f0))∧w'.cell? ⟨go14,(((ji9)).toNat*3)+1,none⟩=some (.int .i64 ((rd_T42 x0_2 (ji9)).f1))∧w'.cell? ⟨go14,(((ji9)).toNat*3)+2,none⟩=some (.int .i64 ((rd_T42 x0_2 (ji9)).f2))∧w'.cell? ⟨go14,((x9_2).toNat*3),none⟩=some (.int .i64 ((rd_T42 x0_2 x9_2).f0))∧w'.cell? ⟨go14,((x9_2).toNat*3)+1,none⟩=some (.int .i64 ((rd_T42 x0_2 x9_2).f1))∧w'.cell? ⟨go14,((x9_2).toNat*3)+2,none⟩=some (.int .i64 ((rd_T42 x0_2 x9_2).f2))) (ds:=[15,17]) _ (by kernel_rfl) rfl rfl ⟨hx138_0,hx138_1,hx138_2,hx139_0,hx139_1,hx139_2⟩ (fun hH=>?_);refine with_tabW api_CloudLayer_CeilingOf_1_107.tab6 api_CloudLayer_CeilingOf_1_107.bits6 (fun HT_ HW_=>?_);generalize w18.drew=w19 at HO_0 HK HB GG14 HQ20 HQ21 hf14_0 hf14_1 hf14_2 hf15_0 hf15_1 hf15_2 hx135_0 hx135_1 hx135_2 hx136_0 hx136_1 hx136_2 hx138_0 hx138_1 hx138_2 hx139_0 hx139_1 hx139_2 hx14_0 hx14_1 hx14_2 hx15_0 hx15_1 hx15_2 hH ⊢;refine pZ 0 (some 37) (bs 18 1) HT_ ?_;refine pZ 1 (some 38) (bs 18 3) HT_ ?_;refine pZ 2 (some 39) (bs 18 7) HT_ ?_;refine pZ 3 (some 40) (bs 18 15) HT_ ?_;refine pZ 4 (some 41) (bs 18 31) HT_ ?_;refine pZ 5 (some 42) (bs 18 63) HT_ ?_;refine pZ 6 (some 43) (bs 18 127) HT_ ?_;refine pZ 7 (some 44) (bs 18 255) HT_ ?_;refine pZ 8 (some 45) (bs 18 511) HT_ ?_;refine pZ 10 (some 47) (bs 18 1535) HT_ ?_;refine pZ 11 (some 48) (bs 18 3583) HT_ ?_;refine pZ 12 (some 49) (bs 18 7679) HT_ ?_;refine takeZ 9 (some 46) (bs 18 8191) (tw HT_ HW_) hH ?_;refine takeZ 13 (some 50) (bs 18 16383) (tw HT_ HW_) hH ?_;refine pZ 14 (some 51) (bs 18 32767) HT_ ?_;refine last_ (i:=15) (N:=none) (bs 18 65535) rfl rfl (o1 HT_) (by decide) (fun K hK=>?_);refine skip_ (w1:=?_) (by rfl) rfl ?_ ?_;rotate_left
                        · go_simp
                          rfl
                        refine hK.out _ _ ?_;clear hK K;refine pZ 16 (some 52) (bs 18 131071) HT_ ?_;have hnej_:¬ ((ji9:Int).toNat=(x9_2:Int).toNat):=by have h1:=hji9;unfold wrap64 at h1;have h2:0≤(ji9:Int):=od;have h3:0≤(x9_2:Int):=od;omega
                        have hnek_:¬ ((x9_2:Int).toNat=(ji9:Int).toNat):=fun e_=>hnej_ e_.symm;have hfj0_:w19.frozen? ⟨go14,(ji9:Int).toNat*3,none⟩=false:=by simpa [World.setCells]using hf15_0
                        have hfj1_:w19.frozen? ⟨go14,(ji9:Int).toNat*3+1,none⟩=false:=by simpa [World.setCells]using hf15_1
                        have hfj2_:w19.frozen? ⟨go14,(ji9:Int).toNat*3+2,none⟩=false:=by simpa [World.setCells]using hf15_2
                        refine last_ (i:=17) (N:=none) (bs 18 262143) rfl rfl (o1 HT_) (by decide) (fun K hK=>?_);refine skip_ (w1:=?_) (by rfl) rfl ?_ ?_;rotate_left
                        · go_simp
                          rfl
                        refine hK.out _ _ ?_;clear hK K;refine done_ (done_of HT_.out (by kernel_rfl)) ?_
                        try go_wp2
                        go_roundg k2
                        case measure=>have:=HK1.out;have:=HK2.out;omega
                        case rel=>exact⟨(y141),(ji9),(by first|rfl|(simp;done)|(simp only[← hji9]<;>(first|rfl|simp))|(simp[*];done)),H',⟨by have:=HK1.out;have:=HK2.out;omega⟩,⟨br HQ21.out⟩,⟨by repeat(first|(with_reducible first|exact HK.out|apply Kept.alloc|apply Kept.drewN|apply Kept.drew|refine Kept.setCell ?_ HMgo14.out _|refine Kept.setCell ?_ HMgo14.out _|refine Kept.setCell ?_ HMgo14.out _|refine Kept.setCell ?_ HMgo14.out _|refine Kept.setCell ?_ HMgo14.out _|refine Kept.setCell ?_ HMgo14.out _)|exact HK.out)⟩,⟨by repeat(first|(with_reducible first|exact HB.out|apply below_alloc|apply pw_below_drewN|apply below_drew1|refine below_set ?_ GB14.out|refine below_set ?_ GB14.out|refine below_set ?_ GB14.out|refine below_set ?_ GB14.out|refine below_set ?_ GB14.out|refine below_set ?_ GB14.out)|exact HB.out)⟩⟩
                      · rw[if_neg c13]at H;have c13b0:=decide_eq_false c13;clear c13;have H':=m0 H;clear H
                        try go_wp2
                        replace HO_0:=m0 (Kd.R_drew HO_0.out);replace HK:=m0 (Kept.drew HK.out);replace HB:=sd HB;obtain⟨Ao23,co23,eo23⟩:=Kd.R_slice HO_0.out;subst eo23;have p135:0≤(x9_2:Int):=od;have q135:x9_2<(x0_2.length:Int):=od;obtain⟨ad135,e135,hx135_0,hx135_1,hx135_2⟩:=at_T42 (Kd.R_reads' HO_0.out).2.2 x9_2 p135 q135
                        cases e135
                        replace p135:=eq_true p135;replace q135:=eq_true q135;have p136:0≤((ji9):Int):=od;have q136:(ji9)<(x0_2.length:Int):=od;obtain⟨ad136,e136,hx136_0,hx136_1,hx136_2⟩:=at_T42 (Kd.R_reads' HO_0.out).2.2 (ji9) p136 q136;obtain rfl:ad135=ad136:=(by injection e136);replace p136:=eq_true p136;replace q136:=eq_true q136;refine start_ (n:=17) (S:=fun w'=>w'.cell? (ad135.add ((x9_2).toNat*3))=some (.int .i64 ((rd_T42 x0_2 x9_2).f0))∧w'.cell? ⟨(ad135.add ((x9_2).toNat*3)).block,(ad135.add ((x9_2).toNat*3)).off+1,none⟩=some (.int .i64 ((rd_T42 x0_2 x9_2).f1))∧w'.cell? ⟨(ad135.add ((x9_2).toNat*3)).block,(ad135.add ((x9_2).toNat*3)).off+2,none⟩=some (.int .i64 ((rd_T42 x0_2 x9_2).f2))∧w'.cell? (ad135.add (((ji9)).toNat*3))=some (.int .i64 ((rd_T42 x0_2 (ji9)).f0))∧w'.cell? ⟨(ad135.add (((ji9)).toNat*3)).block,(ad135.add (((ji9)).toNat*3)).off+1,none⟩=some (.int .i64 ((rd_T42 x0_2 (ji9)).f1))∧w'.cell? ⟨(ad135.add (((ji9)).toNat*3)).block,(ad135.add (((ji9)).toNat*3)).off+2,none⟩=some (.int .i64 ((rd_T42 x0_2 (ji9)).f2))) (ds:=[]) _ (by kernel_rfl) rfl rfl ⟨hx135_0,hx135_1,hx135_2,hx136_0,hx136_1,hx136_2⟩ (fun hH=>?_);refine with_tabW api_CloudLayer_CeilingOf_1_107.tab4 api_CloudLayer_CeilingOf_1_107.bits4 (fun HT_ HW_=>?_);generalize wr.drew=w22 at HO_0 HK HB hx135_0 hx135_1 hx135_2 hx136_0 hx136_1 hx136_2 hH ⊢;refine pZ 0 (some 18) (bs 17 1) HT_ ?_;refine pZ 1 (some 19) (bs 17 3) HT_ ?_;refine pZ 2 (some 20) (bs 17 7) HT_ ?_;refine pZ 3 (some 21) (bs 17 15) HT_ ?_;refine pZ 4 (some 22) (bs 17 31) HT_ ?_;refine pZ 5 (some 23) (bs 17 63) HT_ ?_;refine pZ 6 (some 24) (bs 17 127) HT_ ?_;refine pZ 7 (some 25) (bs 17 255) HT_ ?_;refine pZ 9 (some 27) (bs 17 767) HT_ ?_;refine pZ 10 (some 28) (bs 17 1791) HT_ ?_;refine pZ 11 (some 29) (bs 17 3839) HT_ ?_;refine pZ 12 (some 30) (bs 17 7935) HT_ ?_;refine takeZ 8 (some 26) (bs 17 8191) (tw HT_ HW_) hH ?_;refine takeZ 13 (some 31) (bs 17 16383) (tw HT_ HW_) hH ?_;refine oneZ 14 (some 32) (bs 17 32767) (o1 HT_) fun K hK=>?_;refine goesV_ 22 Try.func30 (by kernel_rfl) rfl #[.agg #[.int .i64 ((rd_T42 x0_2 x9_2).f0),.int .i64 ((rd_T42 x0_2 x9_2).f1),.int .i64 ((rd_T42 x0_2 x9_2).f2)],.agg #[.int .i64 ((rd_T42 x0_2 (ji9)).f0),.int .i64 ((rd_T42 x0_2 (ji9)).f1),.int .i64 ((rd_T42 x0_2 (ji9)).f2)]] (by rfl) rfl rfl (by rfl) (by(try simp only[List.map_toArray,List.map_cons,List.map_nil]);first|done|(simp only[hji9];rfl)|rfl|(simp only[List.length_drop,List.length_take];rfl)) ?_
                        with_reducible refine(L_CeilingOf_1.calls ((rd_T42 x0_2 x9_2).f0) ((rd_T42 x0_2 x9_2).f1) ((rd_T42 x0_2 x9_2).f2) ((rd_T42 x0_2 (ji9)).f0) ((rd_T42 x0_2 (ji9)).f1) ((rd_T42 x0_2 (ji9)).f2) t137 _ A12.out).mono ?_
                        rintro e w24 ⟨rfl,hb⟩;have HS0_:=(hb.cell (World.block_lt_of_cell? _ _ (hH.1))).trans (hH.1);have HS1_:=(hb.cell (World.block_lt_of_cell? _ _ (hH.2.1))).trans (hH.2.1);have HS2_:=(hb.cell (World.block_lt_of_cell? _ _ (hH.2.2.1))).trans (hH.2.2.1);have HS3_:=(hb.cell (World.block_lt_of_cell? _ _ (hH.2.2.2.1))).trans (hH.2.2.2.1);have HS4_:=(hb.cell (World.block_lt_of_cell? _ _ (hH.2.2.2.2.1))).trans (hH.2.2.2.2.1);have HS5_:=(hb.cell (World.block_lt_of_cell? _ _ (hH.2.2.2.2.2))).trans (hH.2.2.2.2.2);refine⟨_,rfl,?_⟩;replace HO_0:=rb HO_0 hb;replace HK:=m0 (Kept.below (S:=(fun k_=>P0_ k_)) (by repeat(first|(with_reducible first|exact HK.out|apply Kept.alloc|apply Kept.drewN|apply Kept.drew)|exact HK.out)) hb);replace HB:=sb HB hb
                        (try clear hb);refine hK.out _ _ ⟨HS0_,HS1_,HS2_,HS3_,HS4_,HS5_⟩ (fun hH=>?_);clear hK K;refine nz 32 ?_;refine pZ 15 (some 33) (bs 17 65535) HT_ ?_;refine pZ 16 (some 34) (bs 17 131071) HT_ ?_;refine done_ (done_of HT_.out (by kernel_rfl)) ?_
                        try go_wp2
                        go_roundg k2
                        case measure=>have:=HK1.out;have:=HK2.out;omega
                        case rel=>exact⟨(x0_2),(wrap64 (x8_1+1)),rz,H',⟨by have:=HK1.out;have:=HK2.out;omega⟩,⟨br HO_0.out⟩,⟨by repeat(first|(with_reducible first|exact HK.out|apply Kept.alloc|apply Kept.drewN|apply Kept.drew)|exact HK.out)⟩,⟨bz⟩⟩
                    · rw[if_neg c11]at H;exact absurd H (by simp)
                  · rw[if_neg c10]at H;exact absurd H (by simp)
                · rw[if_neg c8]at H;exact absurd H (by simp)
              · rw[if_neg c7]at H;exact absurd H (by simp)
            · rw[if_neg c6]at H;have c6b0:=decide_eq_false c6;clear c6;have H':=m0 H;clear H
              try go_wp2
              replace HO_0:=m0 (Kd.R_drew HO_0.out);replace HK:=m0 (Kept.drew HK.out);replace HB:=sd HB;refine start_ (n:=17) (S:=fun w'=>True) (ds:=[]) _ (by kernel_rfl) rfl rfl trivial (fun hH=>?_);refine with_tabW api_CloudLayer_CeilingOf_1_107.tab4 api_CloudLayer_CeilingOf_1_107.bits4 (fun HT_ HW_=>?_);generalize wr.drew=w25 at HO_0 HK HB hH ⊢;refine pZ 0 (some 18) (bs 17 1) HT_ ?_;refine pZ 1 (some 19) (bs 17 3) HT_ ?_;refine pZ 2 (some 20) (bs 17 7) HT_ ?_;refine pZ 3 (some 21) (bs 17 15) HT_ ?_;refine pure_ (i:=4) (N:=some 22) (v:=undef) (a':=?_) (bs 17 31) rfl rfl (any_of HT_.out (by kernel_rfl)) (fun _ _ _ h=>h) (Or.inr ⟨by rfl,rfl⟩) ?_ ?_;rotate_left
              · exact pz
              refine pure_ (i:=5) (N:=some 23) (v:=undef) (a':=?_) (bs 17 63) rfl rfl (any_of HT_.out (by kernel_rfl)) (fun _ _ _ h=>h) (Or.inr ⟨by rfl,rfl⟩) ?_ ?_;rotate_left
              · exact pz
              refine pure_ (i:=6) (N:=some 24) (v:=undef) (a':=?_) (bs 17 127) rfl rfl (any_of HT_.out (by kernel_rfl)) (fun _ _ _ h=>h) (Or.inr ⟨by rfl,rfl⟩) ?_ ?_;rotate_left
              · exact pz
              refine pure_ (i:=7) (N:=some 25) (v:=undef) (a':=?_) (bs 17 255) rfl rfl (any_of HT_.out (by kernel_rfl)) (fun _ _ _ h=>h) (Or.inr ⟨by rfl,rfl⟩) ?_ ?_;rotate_left
              · exact pz
              refine pure_ (i:=8) (N:=some 26) (v:=undef) (a':=?_) (bs 17 511) rfl rfl (any_of HT_.out (by kernel_rfl)) (fun _ _ _ h=>h) (Or.inr ⟨by rfl,rfl⟩) ?_ ?_;rotate_left
              · exact pz
              refine pure_ (i:=9) (N:=some 27) (v:=undef) (a':=?_) (bs 17 1023) rfl rfl (any_of HT_.out (by kernel_rfl)) (fun _ _ _ h=>h) (Or.inr ⟨by rfl,rfl⟩) ?_ ?_;rotate_left
              · exact pz
              refine pure_ (i:=10) (N:=some 28) (v:=undef) (a':=?_) (bs 17 2047) rfl rfl (any_of HT_.out (by kernel_rfl)) (fun _ _ _ h=>h) (Or.inr ⟨by rfl,rfl⟩) ?_ ?_;rotate_left
              · exact pz
              refine pure_ (i:=11) (N:=some 29) (v:=undef) (a':=?_) (bs 17 4095) rfl rfl (any_of HT_.out (by kernel_rfl)) (fun _ _ _ h=>h) (Or.inr ⟨by rfl,rfl⟩) ?_ ?_;rotate_left
              · exact pz
              refine pure_ (i:=12) (N:=some 30) (v:=undef) (a':=?_) (bs 17 8191) rfl rfl (any_of HT_.out (by kernel_rfl)) (fun _ _ _ h=>h) (Or.inr ⟨by rfl,rfl⟩) ?_ ?_;rotate_left
              · exact pz
              refine pure_ (i:=13) (N:=some 31) (v:=undef) (a':=?_) (bs 17 16383) rfl rfl (any_of HT_.out (by kernel_rfl)) (fun _ _ _ h=>h) (Or.inr ⟨by rfl,rfl⟩) ?_ ?_;rotate_left
              · exact pz
              refine pure_ (i:=14) (N:=some 32) (v:=undef) (a':=?_) (bs 17 32767) rfl rfl (any_of HT_.out (by kernel_rfl)) (fun _ _ _ h=>h) (Or.inr ⟨by rfl,rfl⟩) ?_ ?_;rotate_left
              · exact pz
              refine pure_ (i:=15) (N:=some 33) (v:=undef) (a':=?_) (bs 17 65535) rfl rfl (any_of HT_.out (by kernel_rfl)) (fun _ _ _ h=>h) (Or.inr ⟨by rfl,rfl⟩) ?_ ?_;rotate_left
              · exact pz
              refine pZ 16 (some 34) (bs 17 131071) HT_ ?_;refine done_ (done_of HT_.out (by kernel_rfl)) ?_
              try go_wp2
              go_roundg k2
              case measure=>have:=HK1.out;have:=HK2.out;omega
              case rel=>exact⟨(x0_2),(wrap64 (x8_1+1)),rz,H',⟨by have:=HK1.out;have:=HK2.out;omega⟩,⟨br HO_0.out⟩,⟨by repeat(first|(with_reducible first|exact HK.out|apply Kept.alloc|apply Kept.drewN|apply Kept.drew)|exact HK.out)⟩,⟨bz⟩⟩
      · rw[if_neg c5]at H;have c5b0:=decide_eq_false c5;clear c5;obtain rfl:=Option.some.inj H
        go_wp2
        first|go_end0|((try simp only[Exit.inBlock,Exit.then]);refine bodyPost_ret (results_none rfl _ _ _) rfl ?_)
        exact⟨by first|rfl|(simp[errW_none,errW_some]<;>rfl)|(simp[*,errW_none,errW_some]<;>rfl),by(with_reducible repeat(first|apply Kd.R_alloc|apply Kd.R_drewN|apply Kd.R_drew));exact HO_0.out,by repeat(first|(with_reducible first|exact HB.out|apply below_alloc|apply pw_below_drewN|apply below_drew1)|exact HB.out),by repeat(first|(with_reducible first|exact HK.out|apply Kept.alloc|apply Kept.drewN|apply Kept.drew)|exact HK.out)⟩
end
end Go.Proofs.Ytggiijffaifajaa.A
