/- Walks of the program's functions (printed, made shorter), each with what it computes. -/
import Derived.Test.YteiafijbgjgiaaaGreatP16
import Derived.Lib.SliceRun
namespace Go.Proofs.YteiafijbgjgiaaaGreat.A
set_option maxHeartbeats 8000000
set_option maxRecDepth 100000
open Go.RowKit Go.Proofs.YteiafijbgjgiaaaGreatW.PrintWords Go.Proofs.YteiafijbgjgiaaaGreatW.PrintLast Go.Proofs.YteiafijbgjgiaaaGreatW.PrintMore
attribute [local go_sem] max2_int min2_int max_two min_two max_three min_three max_four min_four
set_option linter.unusedVariables false
set_option linter.unusedSimpArgs false
section
def L_factors_times.f (l0 l1:List Int) (a1 a2:Int):Option (List Int×List Int):=if l0.length<17592186044415 then(if l1.length<17592186044415 then some (l0++ [a1],l1++ [a2])else none)else none
section
open Go.Region
variable (A0:Option Addr) (c0:Nat) (l0:List Int) (A1:Option Addr) (c1:Nat) (l1:List Int) (a1 a2:Int) (g3 g6:Nat)
def L_factors_times.act (t9 t11 t12 t15 t17 t18:Value):Act:={tmps:= #[.agg #[.slice A0 l0.length c0,.slice A1 l1.length c1],.int .i64 a1,.int .i64 a2,.pointer (some ⟨g3,0,none⟩),undef,undef,.pointer (some ⟨g6,0,none⟩),.pointer (some ⟨g3,0,none⟩),.slice A0 l0.length c0,t9,.int .i64 a1,t11,t12,.pointer (some ⟨g3,1,none⟩),.slice A1 l1.length c1,t15,.int .i64 a2,t17,t18,undef],defers:=[] }
def L_factors_times.tls (b2 b4 b5 b8 b10 b11:Bool):Array Bool:= #[true,true,b2,true,b4,b5,true,true,b8,true,b10,b11,false,false]
structure L_factors_times.Fx (w W:World) (b2 b4 b5 b8 b10:Bool) (t9 t11 t12 t15 t17:Value):Prop where
 hb:Below w.heap.size w W
 k3:W.heap[g3]?=some (.cells #[.slice A0 l0.length c0,.slice A1 l1.length c1] 112 (0,0))
 k6:W.heap[g6]?=some (.cells #[.slice none 0 0,.slice none 0 0] 112 (0,0))
 f2:b2=true→t9= .slice A0 l0.length l0.length
 f4:b4=true→Kd.R (Kd.int .i64) 3 W w.heap.size (fun k=>k≠g3∧k≠g6) t11 [a1]
 f5:b5=true→Kd.R (Kd.int .i64) 3 W w.heap.size (fun k=>k≠g3∧k≠g6) t12 (l0++ [a1])
 f8:b8=true→t15= .slice A1 l1.length l1.length
 f10:b10=true→Kd.R (Kd.int .i64) 3 W w.heap.size (fun k=>k≠g3∧k≠g6) t17 [a2]
variable {A0 c0 l0 A1 c1 l1 a1 a2 g3 g6}
theorem L_factors_times.Fx.step {w W W':World} {b2 b4 b5 b8 b10:Bool} {t9 t11 t12 t15 t17:Value} (F:L_factors_times.Fx A0 c0 l0 A1 c1 l1 a1 a2 g3 g6 w W b2 b4 b5 b8 b10 t9 t11 t12 t15 t17) (hb:Below W.heap.size W W'):L_factors_times.Fx A0 c0 l0 A1 c1 l1 a1 a2 g3 g6 w W' b2 b4 b5 b8 b10 t9 t11 t12 t15 t17:=
 ⟨below_step F.hb hb,blk_below F.k3 hb,blk_below F.k6 hb,F.f2,fun h=>Kd.R_below (F.f4 h) hb,fun h=>Kd.R_below (F.f5 h) hb,F.f8,fun h=>Kd.R_below (F.f10 h) hb⟩
theorem L_factors_times.fresh {W:World} (k3:W.heap[g3]?=some (.cells #[.slice A0 l0.length c0,.slice A1 l1.length c1] 112 (0,0))) (k6:W.heap[g6]?=some (.cells #[.slice none 0 0,.slice none 0 0] 112 (0,0))):∀ k,W.heap.size≤k→k≠g3∧k≠g6:=fun k hk=>⟨Kd.freshB k3 k hk,Kd.freshB k6 k hk⟩
theorem L_factors_times.grown {W w1:World} (hg:W.grownBy w1 none):Below W.heap.size W w1:=(Below.refl W.heap.size W).grown hg (Nat.le_refl _) (fun j hj=>by cases hj)
section
variable {Q:Exit→Act→World→Prop} {K:Act→World→Prop} {o:Oper} {w W:World} {b2 b4 b5 b8 b10:Bool} {t9 t11 t12 t15 t17 t18:Value}
theorem L_factors_times.ev2 (ho:(opsOf Tryz.f62 1)[2]?=some o) (hc:l0.length≤c0) (h:∀ W',Below W.heap.size W W'→K (L_factors_times.act A0 c0 l0 A1 c1 l1 a1 a2 g3 g6 (.slice A0 l0.length l0.length) t11 t12 t15 t17 t18) W'):
  if Region.wanted o (yielded (opsOf Tryz.f62 1) (L_factors_times.act A0 c0 l0 A1 c1 l1 a1 a2 g3 g6 t9 t11 t12 t15 t17 t18).tmps)=true then Oper.wp Tryz.prog o (L_factors_times.act A0 c0 l0 A1 c1 l1 a1 a2 g3 g6 t9 t11 t12 t15 t17 t18) W K Q else K ((L_factors_times.act A0 c0 l0 A1 c1 l1 a1 a2 g3 g6 t9 t11 t12 t15 t17 t18).put o.dst undef) W:=by
 obtain rfl:=Option.some.inj ho;refine goes_ (N:=some 9) Tryz.func86 (by kernel_rfl) rfl #[.slice A0 l0.length c0] (by rfl) rfl rfl (by simp only[List.map_toArray,List.map_cons,List.map_nil];rfl) ?_;refine(slices_Clip_int_int.full A0 l0.length c0 W hc).mono ?_;rintro e w' ⟨rfl,⟨q,rfl⟩⟩;exact⟨_,rfl,h _ (pw_below_drewN (Below.refl _ _) _)⟩
theorem L_factors_times.ev8 (ho:(opsOf Tryz.f62 1)[8]?=some o) (hc:l1.length≤c1) (h:∀ W',Below W.heap.size W W'→K (L_factors_times.act A0 c0 l0 A1 c1 l1 a1 a2 g3 g6 t9 t11 t12 (.slice A1 l1.length l1.length) t17 t18) W'):
  if Region.wanted o (yielded (opsOf Tryz.f62 1) (L_factors_times.act A0 c0 l0 A1 c1 l1 a1 a2 g3 g6 t9 t11 t12 t15 t17 t18).tmps)=true then Oper.wp Tryz.prog o (L_factors_times.act A0 c0 l0 A1 c1 l1 a1 a2 g3 g6 t9 t11 t12 t15 t17 t18) W K Q else K ((L_factors_times.act A0 c0 l0 A1 c1 l1 a1 a2 g3 g6 t9 t11 t12 t15 t17 t18).put o.dst undef) W:=by
 obtain rfl:=Option.some.inj ho;refine goes_ (N:=some 15) Tryz.func86 (by kernel_rfl) rfl #[.slice A1 l1.length c1] (by rfl) rfl rfl (by simp only[List.map_toArray,List.map_cons,List.map_nil];rfl) ?_;refine(slices_Clip_int_int.full A1 l1.length c1 W hc).mono ?_;rintro e w' ⟨rfl,⟨q,rfl⟩⟩;exact⟨_,rfl,h _ (pw_below_drewN (Below.refl _ _) _)⟩
theorem L_factors_times.ev4 (ho:(opsOf Tryz.f62 1)[4]?=some o) (hb:Below w.heap.size w W) (hf:∀ k,W.heap.size≤k→k≠g3∧k≠g6) (h:∀ v W',Kd.R (Kd.int .i64) 3 W' w.heap.size (fun k=>k≠g3∧k≠g6) v [a1]→Below W.heap.size W W'→K (L_factors_times.act A0 c0 l0 A1 c1 l1 a1 a2 g3 g6 t9 v t12 t15 t17 t18) W'):
  if Region.wanted o (yielded (opsOf Tryz.f62 1) (L_factors_times.act A0 c0 l0 A1 c1 l1 a1 a2 g3 g6 t9 t11 t12 t15 t17 t18).tmps)=true then Oper.wp Tryz.prog o (L_factors_times.act A0 c0 l0 A1 c1 l1 a1 a2 g3 g6 t9 t11 t12 t15 t17 t18) W K Q else K ((L_factors_times.act A0 c0 l0 A1 c1 l1 a1 a2 g3 g6 t9 t11 t12 t15 t17 t18).put o.dst undef) W:=by
 have hop:o.op= .buildSlice 22 1 #[(0,.tmp 10)]:=by cases ho;rfl
 have hds:o.dst=some 11:=by cases ho;rfl
 have hgd:o.guard=none:=by cases ho;rfl
 clear ho;refine Kd.R_lit_step (Kd.int .i64) (w0:=w) w.heap.size 3 (by simp[Region.wanted,hgd]) (N:=11) hds (xs:=[a1]) (inner:=[.int .i64 a1]) (ok:=fun k=>k≠g3∧k≠g6) (okp:=fun _=>False) ?hr (Reps.one (ki a1) (Reps.none _ _)) (fun _ hk=>hk.elim) (hf _ (Nat.le_refl _)) hb hb.size (by simp) (fun v1 w1 hR _ hg _=>by rw[hds];exact h v1 w1 hR (L_factors_times.grown hg))
 case hr=>unfold execOp;simp only[hop];unfold L_factors_times.act;first|(go_simp;done)|(go_simp;rfl)
theorem L_factors_times.ev10 (ho:(opsOf Tryz.f62 1)[10]?=some o) (hb:Below w.heap.size w W) (hf:∀ k,W.heap.size≤k→k≠g3∧k≠g6) (h:∀ v W',Kd.R (Kd.int .i64) 3 W' w.heap.size (fun k=>k≠g3∧k≠g6) v [a2]→Below W.heap.size W W'→K (L_factors_times.act A0 c0 l0 A1 c1 l1 a1 a2 g3 g6 t9 t11 t12 t15 v t18) W'):
  if Region.wanted o (yielded (opsOf Tryz.f62 1) (L_factors_times.act A0 c0 l0 A1 c1 l1 a1 a2 g3 g6 t9 t11 t12 t15 t17 t18).tmps)=true then Oper.wp Tryz.prog o (L_factors_times.act A0 c0 l0 A1 c1 l1 a1 a2 g3 g6 t9 t11 t12 t15 t17 t18) W K Q else K ((L_factors_times.act A0 c0 l0 A1 c1 l1 a1 a2 g3 g6 t9 t11 t12 t15 t17 t18).put o.dst undef) W:=by
 have hop:o.op= .buildSlice 22 1 #[(0,.tmp 16)]:=by cases ho;rfl
 have hds:o.dst=some 17:=by cases ho;rfl
 have hgd:o.guard=none:=by cases ho;rfl
 clear ho;refine Kd.R_lit_step (Kd.int .i64) (w0:=w) w.heap.size 3 (by simp[Region.wanted,hgd]) (N:=17) hds (xs:=[a2]) (inner:=[.int .i64 a2]) (ok:=fun k=>k≠g3∧k≠g6) (okp:=fun _=>False) ?hr (Reps.one (ki a2) (Reps.none _ _)) (fun _ hk=>hk.elim) (hf _ (Nat.le_refl _)) hb hb.size (by simp) (fun v1 w1 hR _ hg _=>by rw[hds];exact h v1 w1 hR (L_factors_times.grown hg))
 case hr=>unfold execOp;simp only[hop];unfold L_factors_times.act;first|(go_simp;done)|(go_simp;rfl)
theorem L_factors_times.ev5 (ho:(opsOf Tryz.f62 1)[5]?=some o) (h9:t9= .slice A0 l0.length l0.length) (HR:Kd.C (Kd.int .i64) W A0 l0.length l0) (h11:Kd.R (Kd.int .i64) 3 W w.heap.size (fun k=>k≠g3∧k≠g6) t11 [a1]) (hl:l0.length<17592186044415) (hb:Below w.heap.size w W) (hf:∀ k,W.heap.size≤k→k≠g3∧k≠g6) (h:∀ v W',Kd.R (Kd.int .i64) 3 W' w.heap.size (fun k=>k≠g3∧k≠g6) v (l0++ [a1])→Below W.heap.size W W'→K (L_factors_times.act A0 c0 l0 A1 c1 l1 a1 a2 g3 g6 t9 t11 v t15 t17 t18) W'):
  if Region.wanted o (yielded (opsOf Tryz.f62 1) (L_factors_times.act A0 c0 l0 A1 c1 l1 a1 a2 g3 g6 t9 t11 t12 t15 t17 t18).tmps)=true then Oper.wp Tryz.prog o (L_factors_times.act A0 c0 l0 A1 c1 l1 a1 a2 g3 g6 t9 t11 t12 t15 t17 t18) W K Q else K ((L_factors_times.act A0 c0 l0 A1 c1 l1 a1 a2 g3 g6 t9 t11 t12 t15 t17 t18).put o.dst undef) W:=by
 obtain rfl:=Option.some.inj ho;exact Kd.R_append_full_rows_step .i64 (w0:=w) w.heap.size (by rfl) (.tmp 9) (.tmp 11) 22 3 (.int .i64 0) 8 rfl Tryz.underlying22 info3 rfl (by decide) A0 l0.length l0 [a1] t11 (fun k=>k≠g3∧k≠g6) (by rw[← h9];rfl) rfl HR h11 (by simp) hf hb hb.size (by simp;omega) (fun v1 w1 hR _ hg _=>h v1 w1 hR (L_factors_times.grown hg))
theorem L_factors_times.ev11 (ho:(opsOf Tryz.f62 1)[11]?=some o) (h15:t15= .slice A1 l1.length l1.length) (HR:Kd.C (Kd.int .i64) W A1 l1.length l1) (h17:Kd.R (Kd.int .i64) 3 W w.heap.size (fun k=>k≠g3∧k≠g6) t17 [a2]) (hl:l1.length<17592186044415) (hb:Below w.heap.size w W) (hf:∀ k,W.heap.size≤k→k≠g3∧k≠g6) (h:∀ v W',Kd.R (Kd.int .i64) 3 W' w.heap.size (fun k=>k≠g3∧k≠g6) v (l1++ [a2])→Below W.heap.size W W'→(∃ b,v.ownBlock=some b∧W.heap.size≤b)→K (L_factors_times.act A0 c0 l0 A1 c1 l1 a1 a2 g3 g6 t9 t11 t12 t15 t17 v) W'):
  if Region.wanted o (yielded (opsOf Tryz.f62 1) (L_factors_times.act A0 c0 l0 A1 c1 l1 a1 a2 g3 g6 t9 t11 t12 t15 t17 t18).tmps)=true then Oper.wp Tryz.prog o (L_factors_times.act A0 c0 l0 A1 c1 l1 a1 a2 g3 g6 t9 t11 t12 t15 t17 t18) W K Q else K ((L_factors_times.act A0 c0 l0 A1 c1 l1 a1 a2 g3 g6 t9 t11 t12 t15 t17 t18).put o.dst undef) W:=by
 obtain rfl:=Option.some.inj ho;refine Kd.R_append_full_rows_step .i64 (w0:=w) w.heap.size (by rfl) (.tmp 15) (.tmp 17) 22 3 (.int .i64 0) 8 rfl Tryz.underlying22 info3 rfl (by decide) A1 l1.length l1 [a2] t17 (fun k=>k≠g3∧k≠g6) (by rw[← h15];rfl) rfl HR h17 (by simp) hf hb hb.size (by simp;omega) (fun v1 w1 hR _ hg hn=>h v1 w1 hR (L_factors_times.grown hg) ?_)
 rcases hn with h0|hn
 ·obtain ⟨_,inner,ho,hr⟩:=hR;obtain⟨_,⟨e,hz⟩|⟨g,cap,cur,rfl,_⟩⟩:=ho
  ·simp at hz
  ·cases h0
 ·exact hn
end
def L_factors_times.S (A0:Option Addr) (c0:Nat) (l0:List Int) (A1:Option Addr) (c1:Nat) (l1:List Int) (g3:Nat):World→Prop:=fun w'=>w'.cell? ⟨g3,0,none⟩=some (.slice A0 l0.length c0)∧w'.cell? ⟨g3,1,none⟩=some (.slice A1 l1.length c1)
theorem L_factors_times.S_of {W:World} (k3:W.heap[g3]?=some (.cells #[.slice A0 l0.length c0,.slice A1 l1.length c1] 112 (0,0))):L_factors_times.S A0 c0 l0 A1 c1 l1 g3 W:=⟨(blk_cell k3 0).trans rfl,(blk_cell k3 1).trans rfl⟩
def L_factors_times.ok:List (Bool×Bool×Bool×Bool×Bool×List Nat×Nat):=[(false,false,false,false,false,[2,4,10],6),(true,false,false,false,false,[4,10],5),(false,true,false,false,false,[2,10],5),(false,false,false,false,true,[2,4],5),(true,true,false,false,false,[5,10],4),(true,false,false,false,true,[4],4),(false,true,false,false,true,[2],4),(true,true,true,false,false,[8,10],3),(true,true,false,false,true,[5],3),(true,true,true,true,false,[10],2),(true,true,true,false,true,[8],2),(true,true,true,true,true,[11],1)]
theorem L_factors_times.walk {Q:Exit→Act→World→Prop} {w:World} (hr0:Kd.C (Kd.int .i64) w A0 l0.length l0) (hc0:l0.length≤c0) (hr1:Kd.C (Kd.int .i64) w A1 l1.length l1) (hc1:l1.length≤c1) (hl0:l0.length<17592186044415) (hl1:l1.length<17592186044415)
  (hfin:∀ t9 t11 t15 t17 v0 v1 W,Below w.heap.size w W→W.heap[g3]?=some (.cells #[.slice A0 l0.length c0,.slice A1 l1.length c1] 112 (0,0))→W.heap[g6]?=some (.cells #[.slice none 0 0,.slice none 0 0] 112 (0,0))→Kd.R (Kd.int .i64) 3 W w.heap.size (fun k=>k≠g3∧k≠g6) v0 (l0++ [a1])→Kd.R (Kd.int .i64) 3 W w.heap.size (fun k=>k≠g3∧k≠g6) v1 (l1++ [a2])→(∀ k,some k=v0.ownBlock→some k≠v1.ownBlock)→
   wpAnyLast Tryz.prog .any (opsOf Tryz.f62 1) Q (L_factors_times.S A0 c0 l0 A1 c1 l1 g3) [] 2 (L_factors_times.tls true true true true true true) (L_factors_times.act A0 c0 l0 A1 c1 l1 a1 a2 g3 g6 t9 t11 v0 t15 t17 v1) W):
  ∀ (m:Nat) (b2 b4 b5 b8 b10:Bool) (rs:List Nat) (t9 t11 t12 t15 t17:Value) (W:World),(b2,b4,b5,b8,b10,rs,m)∈L_factors_times.ok→L_factors_times.Fx A0 c0 l0 A1 c1 l1 a1 a2 g3 g6 w W b2 b4 b5 b8 b10 t9 t11 t12 t15 t17→
   wpAnyLast Tryz.prog .any (opsOf Tryz.f62 1) Q (L_factors_times.S A0 c0 l0 A1 c1 l1 g3) [] (m+2) (L_factors_times.tls b2 b4 b5 b8 b10 false) (L_factors_times.act A0 c0 l0 A1 c1 l1 a1 a2 g3 g6 t9 t11 t12 t15 t17 undef) W:=by
 obtain⟨o2,h2⟩:∃ o,(opsOf Tryz.f62 1)[2]?=some o:=⟨_,rfl⟩;obtain⟨o4,h4⟩:∃ o,(opsOf Tryz.f62 1)[4]?=some o:=⟨_,rfl⟩;obtain⟨o5,h5⟩:∃ o,(opsOf Tryz.f62 1)[5]?=some o:=⟨_,rfl⟩;obtain⟨o8,h8⟩:∃ o,(opsOf Tryz.f62 1)[8]?=some o:=⟨_,rfl⟩;obtain⟨o10,h10⟩:∃ o,(opsOf Tryz.f62 1)[10]?=some o:=⟨_,rfl⟩;obtain⟨o11,h11⟩:∃ o,(opsOf Tryz.f62 1)[11]?=some o:=⟨_,rfl⟩;intro m
 induction m with
 |zero=>intro b2 b4 b5 b8 b10 rs t9 t11 t12 t15 t17 W hm;simp[L_factors_times.ok]at hm
 | succ m ih=>
  intro b2 b4 b5 b8 b10 rs t9 t11 t12 t15 t17 W hm F;have hf:=L_factors_times.fresh F.k3 F.k6;have key:∀ (b2' b4' b5' b8' b10':Bool) (rs':List Nat) (t9' t11' t12' t15' t17':Value) (W':World),(b2',b4',b5',b8',b10',rs',m)∈L_factors_times.ok→L_factors_times.Fx A0 c0 l0 A1 c1 l1 a1 a2 g3 g6 w W' b2' b4' b5' b8' b10' t9' t11' t12' t15' t17'→∀ (l':Array Bool),l'=L_factors_times.tls b2' b4' b5' b8' b10' false→∀ K':Act→World→Prop,Shut (∀ a w',L_factors_times.S A0 c0 l0 A1 c1 l1 g3 w'→(L_factors_times.S A0 c0 l0 A1 c1 l1 g3 w'→wpAnyLast Tryz.prog .any (opsOf Tryz.f62 1) Q (L_factors_times.S A0 c0 l0 A1 c1 l1 g3) [] (m+2) l' a w')→K' a w')→K' (L_factors_times.act A0 c0 l0 A1 c1 l1 a1 a2 g3 g6 t9' t11' t12' t15' t17' undef) W':=fun b2' b4' b5' b8' b10' rs' t9' t11' t12' t15' t17' W' hm' F' l' hl' K' hK'=>hK'.out _ _ (L_factors_times.S_of F'.k3) (fun _=>hl'▸ih b2' b4' b5' b8' b10' rs' t9' t11' t12' t15' t17' W' hm' F');have E2:b2=false→∀ rs',(true,b4,b5,b8,b10,rs',m)∈L_factors_times.ok→∀ rs,AllReadyL Tryz.prog .any (opsOf Tryz.f62 1) Q (L_factors_times.S A0 c0 l0 A1 c1 l1 g3) [] (m+2) (L_factors_times.tls b2 b4 b5 b8 b10 false) (L_factors_times.act A0 c0 l0 A1 c1 l1 a1 a2 g3 g6 t9 t11 t12 t15 t17 undef) W rs→AllReadyL Tryz.prog .any (opsOf Tryz.f62 1) Q (L_factors_times.S A0 c0 l0 A1 c1 l1 g3) [] (m+2) (L_factors_times.tls b2 b4 b5 b8 b10 false) (L_factors_times.act A0 c0 l0 A1 c1 l1 a1 a2 g3 g6 t9 t11 t12 t15 t17 undef) W (2::rs):=fun _ rs' hm' rs hrs=>AllReadyL.cons h2 (by decide) (fun K' hK'=>L_factors_times.ev2 h2 hc0 (fun W' hb=>key true b4 b5 b8 b10 rs' _ _ _ _ _ W' hm' (let F':=F.step hb;⟨F'.hb,F'.k3,F'.k6,fun _=>rfl,F'.f4,F'.f5,F'.f8,F'.f10⟩) _ rfl K' hK')) hrs;have E4:b4=false→∀ rs',(b2,true,b5,b8,b10,rs',m)∈L_factors_times.ok→∀ rs,AllReadyL Tryz.prog .any (opsOf Tryz.f62 1) Q (L_factors_times.S A0 c0 l0 A1 c1 l1 g3) [] (m+2) (L_factors_times.tls b2 b4 b5 b8 b10 false) (L_factors_times.act A0 c0 l0 A1 c1 l1 a1 a2 g3 g6 t9 t11 t12 t15 t17 undef) W rs→AllReadyL Tryz.prog .any (opsOf Tryz.f62 1) Q (L_factors_times.S A0 c0 l0 A1 c1 l1 g3) [] (m+2) (L_factors_times.tls b2 b4 b5 b8 b10 false) (L_factors_times.act A0 c0 l0 A1 c1 l1 a1 a2 g3 g6 t9 t11 t12 t15 t17 undef) W (4::rs):=fun _ rs' hm' rs hrs=>AllReadyL.cons h4 (by decide) (fun K' hK'=>L_factors_times.ev4 h4 F.hb hf (fun v W' hR hb=>key b2 true b5 b8 b10 rs' _ _ _ _ _ W' hm' (let F':=F.step hb;⟨F'.hb,F'.k3,F'.k6,F'.f2,fun _=>hR,F'.f5,F'.f8,F'.f10⟩) _ rfl K' hK')) hrs;have E10:b10=false→∀ rs',(b2,b4,b5,b8,true,rs',m)∈L_factors_times.ok→∀ rs,AllReadyL Tryz.prog .any (opsOf Tryz.f62 1) Q (L_factors_times.S A0 c0 l0 A1 c1 l1 g3) [] (m+2) (L_factors_times.tls b2 b4 b5 b8 b10 false) (L_factors_times.act A0 c0 l0 A1 c1 l1 a1 a2 g3 g6 t9 t11 t12 t15 t17 undef) W rs→AllReadyL Tryz.prog .any (opsOf Tryz.f62 1) Q (L_factors_times.S A0 c0 l0 A1 c1 l1 g3) [] (m+2) (L_factors_times.tls b2 b4 b5 b8 b10 false) (L_factors_times.act A0 c0 l0 A1 c1 l1 a1 a2 g3 g6 t9 t11 t12 t15 t17 undef) W (10::rs):=fun _ rs' hm' rs hrs=>AllReadyL.cons h10 (by decide) (fun K' hK'=>L_factors_times.ev10 h10 F.hb hf (fun v W' hR hb=>key b2 b4 b5 b8 true rs' _ _ _ _ _ W' hm' (let F':=F.step hb;⟨F'.hb,F'.k3,F'.k6,F'.f2,F'.f4,F'.f5,F'.f8,fun _=>hR⟩) _ rfl K' hK')) hrs;have E5:b2=true→b4=true→∀ rs',(b2,b4,true,b8,b10,rs',m)∈L_factors_times.ok→∀ rs,AllReadyL Tryz.prog .any (opsOf Tryz.f62 1) Q (L_factors_times.S A0 c0 l0 A1 c1 l1 g3) [] (m+2) (L_factors_times.tls b2 b4 b5 b8 b10 false) (L_factors_times.act A0 c0 l0 A1 c1 l1 a1 a2 g3 g6 t9 t11 t12 t15 t17 undef) W rs→AllReadyL Tryz.prog .any (opsOf Tryz.f62 1) Q (L_factors_times.S A0 c0 l0 A1 c1 l1 g3) [] (m+2) (L_factors_times.tls b2 b4 b5 b8 b10 false) (L_factors_times.act A0 c0 l0 A1 c1 l1 a1 a2 g3 g6 t9 t11 t12 t15 t17 undef) W (5::rs):=fun e2 e4 rs' hm' rs hrs=>AllReadyL.cons h5 (by decide) (fun K' hK'=>L_factors_times.ev5 h5 (F.f2 e2) (Kd.C_below hr0 F.hb) (F.f4 e4) hl0 F.hb hf (fun v W' hR hb=>key b2 b4 true b8 b10 rs' _ _ _ _ _ W' hm' (let F':=F.step hb;⟨F'.hb,F'.k3,F'.k6,F'.f2,F'.f4,fun _=>hR,F'.f8,F'.f10⟩) _ rfl K' hK')) hrs;have E8:∀ rs',(b2,b4,b5,true,b10,rs',m)∈L_factors_times.ok→∀ rs,AllReadyL Tryz.prog .any (opsOf Tryz.f62 1) Q (L_factors_times.S A0 c0 l0 A1 c1 l1 g3) [] (m+2) (L_factors_times.tls b2 b4 b5 b8 b10 false) (L_factors_times.act A0 c0 l0 A1 c1 l1 a1 a2 g3 g6 t9 t11 t12 t15 t17 undef) W rs→AllReadyL Tryz.prog .any (opsOf Tryz.f62 1) Q (L_factors_times.S A0 c0 l0 A1 c1 l1 g3) [] (m+2) (L_factors_times.tls b2 b4 b5 b8 b10 false) (L_factors_times.act A0 c0 l0 A1 c1 l1 a1 a2 g3 g6 t9 t11 t12 t15 t17 undef) W (8::rs):=fun rs' hm' rs hrs=>AllReadyL.cons h8 (by decide) (fun K' hK'=>L_factors_times.ev8 h8 hc1 (fun W' hb=>key b2 b4 b5 true b10 rs' _ _ _ _ _ W' hm' (let F':=F.step hb;⟨F'.hb,F'.k3,F'.k6,F'.f2,F'.f4,F'.f5,fun _=>rfl,F'.f10⟩) _ rfl K' hK')) hrs;clear ih;simp only[L_factors_times.ok,List.mem_cons,Prod.mk.injEq,List.not_mem_nil,or_false]at hm
  rcases hm with ⟨rfl,rfl,rfl,rfl,rfl,rfl,hm⟩|⟨rfl,rfl,rfl,rfl,rfl,rfl,hm⟩|⟨rfl,rfl,rfl,rfl,rfl,rfl,hm⟩|⟨rfl,rfl,rfl,rfl,rfl,rfl,hm⟩|⟨rfl,rfl,rfl,rfl,rfl,rfl,hm⟩|⟨rfl,rfl,rfl,rfl,rfl,rfl,hm⟩|⟨rfl,rfl,rfl,rfl,rfl,rfl,hm⟩|⟨rfl,rfl,rfl,rfl,rfl,rfl,hm⟩|⟨rfl,rfl,rfl,rfl,rfl,rfl,hm⟩|⟨rfl,rfl,rfl,rfl,rfl,rfl,hm⟩|⟨rfl,rfl,rfl,rfl,rfl,rfl,hm⟩|⟨rfl,rfl,rfl,rfl,rfl,rfl,hm⟩
  ·obtain rfl:m=5:=by omega
   exact wpAnyLast_ready (rs:=[2,4,10]) (by kernel_rfl) (by simp) (E2 rfl [4,10] (by simp[L_factors_times.ok]) _ (E4 rfl [2,10] (by simp[L_factors_times.ok]) _ (E10 rfl [2,4] (by simp[L_factors_times.ok]) _ AllReadyL.nil)))
  ·obtain rfl:m=4:=by omega
   exact wpAnyLast_ready (rs:=[4,10]) (by kernel_rfl) (by simp) (E4 rfl [5,10] (by simp[L_factors_times.ok]) _ (E10 rfl [4] (by simp[L_factors_times.ok]) _ AllReadyL.nil))
  ·obtain rfl:m=4:=by omega
   exact wpAnyLast_ready (rs:=[2,10]) (by kernel_rfl) (by simp) (E2 rfl [5,10] (by simp[L_factors_times.ok]) _ (E10 rfl [2] (by simp[L_factors_times.ok]) _ AllReadyL.nil))
  ·obtain rfl:m=4:=by omega
   exact wpAnyLast_ready (rs:=[2,4]) (by kernel_rfl) (by simp) (E2 rfl [4] (by simp[L_factors_times.ok]) _ (E4 rfl [2] (by simp[L_factors_times.ok]) _ AllReadyL.nil))
  ·obtain rfl:m=3:=by omega
   exact wpAnyLast_ready (rs:=[5,10]) (by kernel_rfl) (by simp) (E5 rfl rfl [8,10] (by simp[L_factors_times.ok]) _ (E10 rfl [5] (by simp[L_factors_times.ok]) _ AllReadyL.nil))
  ·obtain rfl:m=3:=by omega
   exact wpAnyLast_ready (rs:=[4]) (by kernel_rfl) (by simp) (E4 rfl [5] (by simp[L_factors_times.ok]) _ AllReadyL.nil)
  ·obtain rfl:m=3:=by omega
   exact wpAnyLast_ready (rs:=[2]) (by kernel_rfl) (by simp) (E2 rfl [5] (by simp[L_factors_times.ok]) _ AllReadyL.nil)
  ·obtain rfl:m=2:=by omega
   exact wpAnyLast_ready (rs:=[8,10]) (by kernel_rfl) (by simp) (E8 [10] (by simp[L_factors_times.ok]) _ (E10 rfl [8] (by simp[L_factors_times.ok]) _ AllReadyL.nil))
  ·obtain rfl:m=2:=by omega
   exact wpAnyLast_ready (rs:=[5]) (by kernel_rfl) (by simp) (E5 rfl rfl [8] (by simp[L_factors_times.ok]) _ AllReadyL.nil)
  ·obtain rfl:m=1:=by omega
   exact wpAnyLast_ready (rs:=[10]) (by kernel_rfl) (by simp) (E10 rfl [11] (by simp[L_factors_times.ok]) _ AllReadyL.nil)
  ·obtain rfl:m=1:=by omega
   exact wpAnyLast_ready (rs:=[8]) (by kernel_rfl) (by simp) (E8 [11] (by simp[L_factors_times.ok]) _ AllReadyL.nil)
  ·obtain rfl:m=0:=by omega
   refine wpAnyLast_ready (rs:=[11]) (by kernel_rfl) (by simp) (AllReadyL.cons h11 (by decide) (fun K' hK'=>L_factors_times.ev11 h11 (F.f8 rfl) (Kd.C_below hr1 F.hb) (F.f10 rfl) hl1 F.hb hf (fun v W' hR hb hn=>hK'.out _ _ (L_factors_times.S_of (F.step hb).k3) (fun _=>hfin _ _ _ _ _ _ W' (F.step hb).hb (F.step hb).k3 (F.step hb).k6 ((F.step hb).f5 rfl) hR (fun k e1 e2=>?_)))) AllReadyL.nil);obtain⟨b,e3,e4⟩:=hn;have e5:=Kd.R_lt (F.f5 rfl) k e1.symm;rw[e3]at e2
   injection e2 with e2
   omega
theorem L_factors_times.walk2 {Q:Exit→Act→World→Prop} {w:World} {ops:Array Oper} (hops:ops=opsOf Tryz.f62 1) (hr0:Kd.C (Kd.int .i64) w A0 l0.length l0) (hc0:l0.length≤c0) (hr1:Kd.C (Kd.int .i64) w A1 l1.length l1) (hc1:l1.length≤c1) (hl0:l0.length<17592186044415) (hl1:l1.length<17592186044415)
  (hfin:∀ t9 t11 t15 t17 v0 v1 W,Below w.heap.size w W→W.heap[g3]?=some (.cells #[.slice A0 l0.length c0,.slice A1 l1.length c1] 112 (0,0))→W.heap[g6]?=some (.cells #[.slice none 0 0,.slice none 0 0] 112 (0,0))→Kd.R (Kd.int .i64) 3 W w.heap.size (fun k=>k≠g3∧k≠g6) v0 (l0++ [a1])→Kd.R (Kd.int .i64) 3 W w.heap.size (fun k=>k≠g3∧k≠g6) v1 (l1++ [a2])→(∀ k,some k=v0.ownBlock→some k≠v1.ownBlock)→
   wpAnyLast Tryz.prog .any ops Q (L_factors_times.S A0 c0 l0 A1 c1 l1 g3) [] 2 (L_factors_times.tls true true true true true true) (L_factors_times.act A0 c0 l0 A1 c1 l1 a1 a2 g3 g6 t9 t11 v0 t15 t17 v1) W) (W:World) (F:L_factors_times.Fx A0 c0 l0 A1 c1 l1 a1 a2 g3 g6 w W false false false false false undef undef undef undef undef):
  wpAnyLast Tryz.prog .any ops Q (L_factors_times.S A0 c0 l0 A1 c1 l1 g3) [] 8 (L_factors_times.tls false false false false false false) (L_factors_times.act A0 c0 l0 A1 c1 l1 a1 a2 g3 g6 undef undef undef undef undef undef) W:=by
 subst hops;exact L_factors_times.walk hr0 hc0 hr1 hc1 hl0 hl1 hfin 6 false false false false false [2,4,10] undef undef undef undef undef W (by simp[L_factors_times.ok]) F
end
def L_factors_times.T1:Bool×List (List Nat×List Nat):=(true,[([],[]),([0],[0]),([1],[1]),([],[]),([3],[3]),([2,4,2],[2,4]),([],[]),([6],[6]),([7,5],[7]),([],[]),([9],[9]),([8,10,8],[8,10]),([5,11],[5,11]),([12,11,0,1,2,3,4,5,6,7,8,9,10,11,12],[12])])
def L_factors_times.B1:List Nat:=[0,1,3,0,8,31,0,64,255,0,512,2047,4095,8191]
theorem L_factors_times.tab1:rtab .any (opsOf Tryz.f62 1)=L_factors_times.T1:=by kernel_rfl
theorem L_factors_times.bits1:waitsOk L_factors_times.T1.2 L_factors_times.B1=true:=by kernel_rfl
theorem L_factors_times.calls (A0:Option Addr) (c0:Nat) (l0:List Int) (A1:Option Addr) (c1:Nat) (l1:List Int) (a1 a2:Int) (r0 r1:List Int) (w:World) (hr0:Kd.C (Kd.int .i64) w A0 l0.length l0) (hc0:l0.length≤c0) (hr1:Kd.C (Kd.int .i64) w A1 l1.length l1) (hc1:l1.length≤c1) (h:L_factors_times.f l0 l1 a1 a2=some (r0,r1)):
  Calls Tryz.prog 62 #[.agg #[.slice A0 l0.length c0,.slice A1 l1.length c1],.int .i64 a1,.int .i64 a2] w fun e w'=>∃ v0_ v1_:Value,e= .returned (.agg #[v0_,v1_])∧Kd.R (Kd.int .i64) 3 w' w.heap.size (fun k_=>some k_≠v1_.ownBlock) v0_ r0∧Kd.R (Kd.int .i64) 3 w' w.heap.size (fun k_=>some k_≠v0_.ownBlock) v1_ r1∧Below w.heap.size w w':=by
 unfold L_factors_times.f at h
 by_cases hl0:l0.length<17592186044415
 case neg=>rw[if_neg hl0]at h;exact absurd h (by simp)
 rw[if_pos hl0]at h
 by_cases hl1:l1.length<17592186044415
 case neg=>rw[if_neg hl1]at h;exact absurd h (by simp)
 rw[if_pos hl1]at h;simp only[Option.some.injEq,Prod.mk.injEq]at h;obtain⟨rfl,rfl⟩:=h;have HR0:=m0 hr0;have HC0:=m0 hc0;have HR1:=m0 hr1;have HC1:=m0 hc1;have HL0:=m0 hl0;have HL1:=m0 hl1;clear hr0 hc0 hr1 hc1 hl0 hl1;have HB:=m0 (Below.refl w.heap.size w);go_enter Tryz.func62,Tryz.ntmps62
 try go_wp2_with (first|((with_reducible refine ga 3 rfl ?_);refine be 3 112 #[.slice A0 l0.length c0,.slice A1 l1.length c1] ?_;intro gb3 hg w6 hbox hb;have BK3:=m0 hbox;have GE3:=m0 ((by rw[hg];exact(below_size (HB.out)):w.heap.size≤gb3));replace HB:=m0 (below_step (HB.out) hb);clear hb hbox hg)|((with_reducible refine ga 6 rfl ?_);refine be 6 112 #[.slice none 0 0,.slice none 0 0] ?_;intro gb6 hg w7 hbox hb;have BK6:=m0 hbox;have GE6:=gw w hg;replace HB:=sb HB hb;have NB3_6:=nl BK3 hg;replace BK3:=bb BK3 hb;clear hb hbox hg))
 replace BK3:=bd BK3;replace BK6:=bd BK6;replace HB:=sd HB;refine start_ (n:=14) (S:=L_factors_times.S A0 c0 l0 A1 c1 l1 gb3) (ds:=[]) _ (by kernel_rfl) rfl rfl (L_factors_times.S_of BK3.out) (fun hH=>?_);refine with_tabW L_factors_times.tab1 L_factors_times.bits1 (fun HT_ HW_=>?_);generalize w7.drew=w8 at BK3 BK6 HB hH ⊢;refine pZ 0 (some 7) (bs 14 1) HT_ ?_;refine pZ 3 (some 10) (bs 14 9) HT_ ?_;refine pZ 6 (some 13) (bs 14 73) HT_ ?_;refine pZ 9 (some 16) (bs 14 585) HT_ ?_;refine take_ (i:=1) (N:=some 8) (v:=?_) (a':=?_) (bs 14 587) rfl rfl (tw HT_ HW_) (fun _ _ _ h_=>h_) (Or.inl ⟨by rfl,?_⟩) hH ?_ ?_;rotate_left
 ·rintro w' ⟨s0,s1⟩
  go_simp
  with_reducible rfl
 rotate_left
 ·exact pz
 refine take_ (i:=7) (N:=some 14) (v:=?_) (a':=?_) (bs 14 715) rfl rfl (tw HT_ HW_) (fun _ _ _ h_=>h_) (Or.inl ⟨by rfl,?_⟩) hH ?_ ?_;rotate_left
 ·rintro w' ⟨s0,s1⟩
  go_simp
  with_reducible rfl
 rotate_left
 ·exact pz
 refine L_factors_times.walk2 (by kernel_rfl) HR0.out HC0.out HR1.out HC1.out HL0.out HL1.out ?fin w8 ⟨HB.out,BK3.out,BK6.out,fun e_=>absurd e_ (by simp),fun e_=>absurd e_ (by simp),fun e_=>absurd e_ (by simp),fun e_=>absurd e_ (by simp),fun e_=>absurd e_ (by simp)⟩
 case fin=>
  clear HB BK3 BK6 hH;intro t9 t11 t15 t17 v0 v1 W hb k3 k6 hR0 hR1 hne;obtain⟨Ao0,co0,eo0⟩:=Kd.R_slice hR0;subst eo0;obtain⟨Ao1,co1,eo1⟩:=Kd.R_slice hR1;subst eo1;have HB:=m0 hb;have BK3:=m0 k3;have BK6:=m0 k6;have HO0:=m0 hR0;have HO1:=m0 hR1;have HN:=m0 hne;clear hb k3 k6 hR0 hR1 hne;unfold L_factors_times.act L_factors_times.tls;refine pZ 12 (some 19) (bs 14 8191) HT_ ?_;refine oneZ 13 (none) (bs 14 16383) (o1 HT_) fun K hK=>?_;obtain⟨hs15,hfs15⟩:=q0 BK6;obtain⟨hs17,hfs17⟩:=q1 BK6;refine skip_ (w1:=?_) (by rfl) rfl ?_ ?_;rotate_left
  ·go_simp
   rfl
  refine hK.out _ _ ⟨(cell_far (p:=⟨gb6,_,none⟩) NB3_6.out _).trans ((cell_far (p:=⟨gb6,_,none⟩) NB3_6.out _).trans (L_factors_times.S_of BK3.out).1),(cell_far (p:=⟨gb6,_,none⟩) NB3_6.out _).trans ((cell_far (p:=⟨gb6,_,none⟩) NB3_6.out _).trans (L_factors_times.S_of BK3.out).2)⟩ (fun hH=>?_);clear hK K;refine done_ (done_of HT_.out (by kernel_rfl)) ?_
  try go_wp2
  refine bodyPost_ret (results_cell_row rfl _ _ gb6 112 #[.slice Ao0 (l0++ [a1]).length co0,.slice Ao1 (l1++ [a2]).length co1] (0,0) _ rfl (by refine blk_put (cs:= #[.slice Ao0 (l0++ [a1]).length co0,.slice none 0 0]) ?_ 1 _ (by simp);refine blk_put (cs:= #[.slice none 0 0,.slice none 0 0]) ?_ 0 _ (by simp);exact BK6.out) Tryz.underlying112 rfl (by kernel_rfl)) rfl ?_;exact⟨_,_,by first|rfl|(simp;done)|(simp[*];done),Kd.R_mono (Kd.R_far (p:=⟨gb6,1,none⟩) (Kd.R_far (p:=⟨gb6,0,none⟩) (Kd.R_tight rfl HO0.out) (fun k hk e_=>(HO0.out.1 k hk.symm).2 e_) _) (fun k hk e_=>(HO0.out.1 k hk.symm).2 e_) _) (fun k hk=>HN.out k hk),Kd.R_mono (Kd.R_far (p:=⟨gb6,1,none⟩) (Kd.R_far (p:=⟨gb6,0,none⟩) (Kd.R_tight rfl HO1.out) (fun k hk e_=>(HO1.out.1 k hk.symm).2 e_) _) (fun k hk e_=>(HO1.out.1 k hk.symm).2 e_) _) (fun k hk e_=>HN.out k e_ hk),bz⟩
end
section
def slices_Clone_int_int.f (l0:List Int):Option (List Int):=(some (([]:List Int):List Int)).bind fun y604=>(if y604.length+l0.length<17592186044416 then(some (y604++l0))else(none))
theorem slices_Clone_int_int.calls (A0:Option Addr) (c0:Nat) (l0:List Int) (r:List Int) (w:World) (hr0:Kd.C (Kd.int .i64) w A0 l0.length l0) (hc0:l0.length≤c0) (H:slices_Clone_int_int.f l0=some r):
  Calls Tryz.prog 87 #[.slice A0 l0.length c0] w fun e w'=>∃ v0_:Value,e= .returned (v0_)∧Kd.R (Kd.int .i64) 3 w' w.heap.size (fun _=>True) v0_ r∧Below w.heap.size w w':=by
 have HR0:=m0 hr0;have HC0:=m0 hc0;clear hr0 hc0;have HB:=m0 (Below.refl w.heap.size w);unfold slices_Clone_int_int.f at H;obtain⟨y604,hy604⟩:∃ y_:List Int,y_=(([]:List Int)):=⟨_,rfl⟩;replace H:(if y604.length+l0.length<17592186044416 then(some (y604++l0))else(none))=some r:=hq hy604 H
 have Ny604:=m0 hy604;clear hy604
 by_cases c2:y604.length+l0.length<17592186044416
 ·rw [if_pos c2]at H;have LMc2:=m0 c2;clear c2;obtain⟨y607,hy607⟩:∃ y_:List Int,y_=(y604++l0):=⟨_,rfl⟩;replace H:(some y607)=some r:=hq hy607 H
  have Ny607:=m0 hy607;clear hy607;obtain rfl:=Option.some.inj H;have q22:∀ (w:World) (a:Option Addr) (n c n' c':Nat),(binOp .eql 22 (.slice a n c) (.slice none n' c')).run Tryz.prog w= .ok (.bool a.isNone) w:=fun w a n c n' c'=>Lib.run_eql_slice_nil w _ _ a n c n' c' Tryz.underlying22
  cases A0 with
  | none=>
   have hl:l0=[]:=by
    have h3:=HR0.out.2.2
    cases l0 with
    |nil=>rfl
    |cons x l=>obtain⟨ad,e,_⟩:=h3 (Nat.succ_pos _);cases e
   have hy:y607=[]:=by rw[Ny607.out,Ny604.out,hl];rfl
   subst hy;go_enter Tryz.func87,Tryz.ntmps87
   go_wp2
   go_ret
   exact⟨_,rfl,Kd.R_nil _ _ _ _ _,bz⟩
  |some ad=>
   go_enter Tryz.func87,Tryz.ntmps87
   go_wp2_with (first|((with_reducible refine ga 5 rfl ?_);refine Kd.R_lit (Kd.int .i64) _ 3 ?hg (N:=5) ?hd (xs:=([]:List Int)) (inner:=[]) (ok:=fun _=>True) (okp:=fun _=>True) ?hr ?hp (fun _ hk=>hk) trivial (Below.refl _ _) (Nat.le_refl _) (by simp) ?_;(case hd=>rfl);(case hg=>rfl);(case hr=>first|(go_simp;done)|(go_simp;rfl));(case hp=>exact(Reps.none _ _));intro v605 w3 ho4 hb hg_ hnew_;clear hg_ hnew_;(first|rw[← Ny604.out]at ho4|(simp only[Int.reduceToNat]at ho4;rw[← Ny604.out]at ho4));have HO606:=m0 (Kd.R_lower ho4 (below_size bz));replace HB:=sb HB hb;clear hb ho4)|((with_reducible refine gate_builtin (b:= .append) (xs:= #[.tmp 5,.tmp 6]) rfl ?_);at_builtin;refine Kd.R_append_rows (Kd.int .i64) (w0:=w) w.heap.size rfl (.tmp 5) (.tmp 6) 22 3 (.int .i64 0) 8 rfl Tryz.underlying22 info3 rfl (by decide) (by omega) v605 y604 l0 _ _ _ (fun _=>True) (fun _=>False) rfl rfl ?aO ?aR (fun _ _ h=>h) (fun _ h=>h.elim) ?aF ?aB ?aS ?aL ?_;(case aR=>exact cb HR0 HB);(case aB=>exact bz);(case aF=>exact(fun _ _=>trivial));(case aO=>exact(br HO606.out));(case aS=>exact(below_size bz));(case aL=>have:=LMc2.out;omega);intro v608 w5 ho hb hg hat;rw[← Ny607.out]at ho;have n0_:=m0 (hb);have n1_:=m0 (ho);clear HB HO606;have HB:=n0_;have HO609:=n1_;clear n0_ n1_;clear ho hb hg hat))
   go_ret
   exact⟨_,e4,by(with_reducible repeat(first|apply Kd.R_alloc|apply Kd.R_drewN|apply Kd.R_drew));exact HO609.out,bz⟩
 ·rw [if_neg c2]at H;exact absurd H (by simp)
end
section
def slices_Index_int_int.l0:Nat→List Int→Int→Int→Int→Option (Int)
 |0,_,_,_,_=>none
 |k+1,x0,x1,x7,x8=>if x8<x7 then(if 0≤x8 then(if x8<(x0.length:Int)then(if x1=(rd x0 x8)then(some x8)else(slices_Index_int_int.l0 k x0 x1 x7 (wrap64 (x8+1))))else(none))else(none))else(some (-1))
def slices_Index_int_int.f (k:Nat) (l0:List Int) (a1:Int):Option (Int):=slices_Index_int_int.l0 k l0 a1 (l0.length:Int) 0
theorem slices_Index_int_int.mono_l:∀ k,(∀ y0 y1 y2 y3,LeO (slices_Index_int_int.l0 k y0 y1 y2 y3) (slices_Index_int_int.l0 (k+1) y0 y1 y2 y3))
 |0=>fun _ _ _ _ r h=>by simp[slices_Index_int_int.l0]at h
 | k+1=>by
  have ih0:=slices_Index_int_int.mono_l k
  ·intro y0 y1 y2 y3;unfold slices_Index_int_int.l0
   exact lz
theorem slices_Index_int_int.mono:∀ a0 a1 k,LeO (slices_Index_int_int.f k a0 a1) (slices_Index_int_int.f (k+1) a0 a1):=by
 intro a0 a1 k;have ih0:=slices_Index_int_int.mono_l k;unfold slices_Index_int_int.f
 exact lz
theorem slices_Index_int_int.calls (k:Nat) (A0:Option Addr) (c0:Nat) (l0:List Int) (a1:Int) (r:Int) (w:World) (hr0:Kd.C (Kd.int .i64) w A0 l0.length l0) (hc0:l0.length≤c0) (H:slices_Index_int_int.f k l0 a1=some r):
  Calls Tryz.prog 118 #[.slice A0 l0.length c0,.int .i64 a1] w fun e w'=>e= .returned (.int .i64 r)∧Drawn0 w w':=by
 have HR0:=m0 hr0;have HC0:=m0 hc0;clear hr0 hc0;unfold slices_Index_int_int.f at H;have H':=m0 H;clear H;go_enter Tryz.func118,Tryz.ntmps118
 go_wp2
 go_loopg [8] k (fun kq v8 w'=>∃ (x8_1:Int),v8= .int .i64 x8_1∧Aside0 (slices_Index_int_int.l0 kq l0 a1 (l0.length:Int) x8_1=some r)∧Aside0 (kq≤k)∧Drawn0 w w')
 case atStart=>exact⟨(0),rz,H',⟨Nat.le_refl _⟩,dz⟩
 case round=>
  clear H';obtain⟨x8_1,rfl,HA,HK1,⟨m1,rfl⟩⟩:=hrel
  cases gk with
  |zero=>exact absurd HA.out (by simp[slices_Index_int_int.l0])
  | succ k1=>
   have H:=HA.out;clear HA;simp only[slices_Index_int_int.l0]at H
   by_cases c3:x8_1<(l0.length:Int)
   ·rw [if_pos c3]at H;have c3b0:=decide_eq_true c3;clear c3
    by_cases c4:0≤x8_1
    ·rw [if_pos c4]at H;have c4b0:=decide_eq_true c4;clear c4
     by_cases c5:x8_1<(l0.length:Int)
     ·rw [if_pos c5]at H;have c5b0:=decide_eq_true c5;clear c5;have p664:0≤(x8_1:Int):=od;have q664:x8_1<(l0.length:Int):=od;obtain⟨ad664,e664,hx664_0⟩:=Kd.at_int HR0.out x8_1 p664 q664
      cases e664
      replace p664:=eq_true p664;replace q664:=eq_true q664
      by_cases c6:a1=(rd l0 x8_1)
      ·rw [if_pos c6]at H;have c6b0:=beq_iff_eq.mpr c6;have c6b1:=bne_eq_false_iff_eq.mpr c6;clear c6;obtain rfl:=Option.some.inj H
       go_wp2
       go_ret
       exact⟨rz,dz⟩
      ·rw [if_neg c6]at H;have c6b0:=beq_eq_false_iff_ne.mpr c6;have c6b1:=bne_iff_ne.mpr c6;have H':=m0 H;clear H
       go_wp2
       go_roundg k1
       case measure=>have:=HK1.out;omega
       case rel=>exact⟨(wrap64 (x8_1+1)),rz,H',⟨by have:=HK1.out;omega⟩,dz⟩
     ·rw [if_neg c5]at H;exact absurd H (by simp)
    ·rw [if_neg c4]at H;exact absurd H (by simp)
   ·rw [if_neg c3]at H;have c3b0:=decide_eq_false c3;clear c3;obtain rfl:=Option.some.inj H
    go_wp2
    go_ret
    exact⟨rz,dz⟩
end
section
def slices_Contains_int_int.f (k:Nat) (l0:List Int) (a1:Int):Option (Bool):=(slices_Index_int_int.f k l0 a1).bind fun t665=>(some (decide (t665≥0)))
theorem slices_Contains_int_int.mono:∀ a0 a1 k,LeO (slices_Contains_int_int.f k a0 a1) (slices_Contains_int_int.f (k+1) a0 a1):=by
 intro a0 a1 k;unfold slices_Contains_int_int.f
 have m1:=@slices_Index_int_int.mono;exact lz
theorem slices_Contains_int_int.calls (k:Nat) (A0:Option Addr) (c0:Nat) (l0:List Int) (a1:Int) (r:Bool) (w:World) (hr0:Kd.C (Kd.int .i64) w A0 l0.length l0) (hc0:l0.length≤c0) (H:slices_Contains_int_int.f k l0 a1=some r):
  Calls Tryz.prog 88 #[.slice A0 l0.length c0,.int .i64 a1] w fun e w'=>e= .returned (.bool r)∧Drawn0 w w':=by
 have HR0:=m0 hr0;have HC0:=m0 hc0;clear hr0 hc0;unfold slices_Contains_int_int.f at H;replace H:=oa H;obtain⟨t665,A3,H⟩:=H;(try dsimp only at H);obtain rfl:=Option.some.inj H;go_enter Tryz.func88,Tryz.ntmps88
 go_wp2_with (first|((with_reducible refine gc 118 rfl ?_);refine gl (some 7) Tryz.func118 #[.slice A0 l0.length c0,.int .i64 a1] ?_;(with_reducible refine(slices_Index_int_int.calls k _ _ l0 a1 t665 _ ?side1 ?side2 A3.out).mono ?_);(case side1=>exact cd HR0.out);(case side2=>exact HC0.out);rintro e w' ⟨rfl,⟨nd,rfl⟩⟩;refine⟨_,rfl,?_⟩))
 go_ret
 exact⟨rz,dz⟩
end
section
def L_product.l0:Nat→Int→List Int→Int→Int→Option (Int×Bool)
 |0,_,_,_,_=>none
 |k+1,x4,x7,x8,x9=>if x9<x8 then(if 0≤x9 then(if x9<(x7.length:Int)then(if(wrap64 (x4*(rd x7 x9)))>1000000000 then(some (0,false))else(L_product.l0 k (wrap64 (x4*(rd x7 x9))) x7 x8 (wrap64 (x9+1))))else(none))else(none))else(some (x4,true))
def L_product.f (k:Nat) (l0:List Int):Option (Int×Bool):=L_product.l0 k 1 l0 (l0.length:Int) 0
theorem L_product.mono_l:∀ k,(∀ y0 y1 y2 y3,LeO (L_product.l0 k y0 y1 y2 y3) (L_product.l0 (k+1) y0 y1 y2 y3))
 |0=>fun _ _ _ _ r h=>by simp[L_product.l0]at h
 | k+1=>by
  have ih0:=L_product.mono_l k
  ·intro y0 y1 y2 y3;unfold L_product.l0
   exact lz
theorem L_product.mono:∀ a0 k,LeO (L_product.f k a0) (L_product.f (k+1) a0):=by
 intro a0 k;have ih0:=L_product.mono_l k;unfold L_product.f
 exact lz
theorem L_product.calls (k:Nat) (A0:Option Addr) (c0:Nat) (l0:List Int) (r1:Int) (r2:Bool) (w:World) (hr0:Kd.C (Kd.int .i64) w A0 l0.length l0) (hc0:l0.length≤c0) (H:L_product.f k l0=some (r1,r2)):
  Calls Tryz.prog 89 #[.slice A0 l0.length c0] w fun e w'=>e= .returned (.tuple #[.int .i64 r1,.bool r2])∧Drawn0 w w':=by
 have HR0:=m0 hr0;have HC0:=m0 hc0;clear hr0 hc0;unfold L_product.f at H;have H':=m0 H;clear H;go_enter Tryz.func89,Tryz.ntmps89
 go_wp2
 go_loopg [4,9] k (fun kq v4 v9 w'=>∃ (x4_1:Int) (x9_1:Int),v4= .int .i64 x4_1∧v9= .int .i64 x9_1∧Aside0 (L_product.l0 kq x4_1 l0 (l0.length:Int) x9_1=some (r1,r2))∧Aside0 (kq≤k)∧Drawn0 w w')
 case atStart=>exact⟨(1),(0),rz,rz,H',⟨Nat.le_refl _⟩,dz⟩
 case round=>
  clear H';obtain⟨x4_1,x9_1,rfl,rfl,HA,HK1,⟨m1,rfl⟩⟩:=hrel
  cases gk with
  |zero=>exact absurd HA.out (by simp[L_product.l0])
  | succ k1=>
   have H:=HA.out;clear HA;simp only[L_product.l0]at H
   by_cases c2:x9_1<(l0.length:Int)
   ·rw [if_pos c2]at H;have c2b0:=decide_eq_true c2;clear c2
    by_cases c3:0≤x9_1
    ·rw [if_pos c3]at H;have c3b0:=decide_eq_true c3;clear c3
     by_cases c4:x9_1<(l0.length:Int)
     ·rw [if_pos c4]at H;have c4b0:=decide_eq_true c4;clear c4;have p666:0≤(x9_1:Int):=od;have q666:x9_1<(l0.length:Int):=od;obtain⟨ad666,e666,hx666_0⟩:=Kd.at_int HR0.out x9_1 p666 q666
      cases e666
      replace p666:=eq_true p666;replace q666:=eq_true q666
      by_cases c5:(wrap64 (x4_1*(rd l0 x9_1)))>1000000000
      ·rw [if_pos c5]at H;have c5b0:=decide_eq_true c5;clear c5;simp only[Option.some.injEq,Prod.mk.injEq]at H;obtain⟨rfl,rfl⟩:=H
       go_wp2
       go_ret2
       exact⟨rz,dz⟩
      ·rw [if_neg c5]at H;have c5b0:=decide_eq_false c5;clear c5;have H':=m0 H;clear H
       go_wp2
       go_roundg k1
       case measure=>have:=HK1.out;omega
       case rel=>exact⟨(wrap64 (x4_1*(rd l0 x9_1))),(wrap64 (x9_1+1)),rz,rz,H',⟨by have:=HK1.out;omega⟩,dz⟩
     ·rw [if_neg c4]at H;exact absurd H (by simp)
    ·rw [if_neg c3]at H;exact absurd H (by simp)
   ·rw [if_neg c2]at H;have c2b0:=decide_eq_false c2;clear c2;simp only[Option.some.injEq,Prod.mk.injEq]at H;obtain⟨rfl,rfl⟩:=H
    go_wp2
    go_ret2
    exact⟨rz,dz⟩
end
end Go.Proofs.YteiafijbgjgiaaaGreat.A
