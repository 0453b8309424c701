/- Walks of the program's functions (printed, made shorter), each with what it computes. -/
import Derived.Test.YtggiijffaifajaaT13
namespace Go.Proofs.Ytggiijffaifajaa.A
set_option maxHeartbeats 8000000
set_option maxRecDepth 100000
open Go.RowKit Go.Proofs.YtggiijffaifajaaW.PrintWords Go.Proofs.YtggiijffaifajaaW.PrintLast Go.Proofs.YtggiijffaifajaaW.PrintMore
attribute [local go_sem] max2_int min2_int max_two min_two max_three min_three max_four min_four
set_option linter.unusedVariables false
set_option linter.unusedSimpArgs false
theorem setCells_blk {g:Nat} {e:TypeId}:∀ (vs:List Value) (o:Nat) (w:World) (cur:Array Value),w.heap[g]?=some (.cells cur e (0,0))→
  ∃ cur',(w.setCells g o vs).heap[g]?=some (.cells cur' e (0,0))∧cur'.size=cur.size∧∀ j,j<o→cur'[j]?=cur[j]?
 | [],_,_,cur,h=>⟨cur,h,rfl,fun _ _=>rfl⟩
 |v::r,o,w,cur,h=>by
  obtain⟨cur',h1,h2,h3⟩:=setCells_blk r (o+1) (w.setCell ⟨g,o,none⟩ v) _ (blk_put h o v rfl);refine⟨cur',h1,by rw[h2,Array.size_setIfInBounds],fun j hj=>?_⟩;rw[h3 j (by omega),Array.getElem?_setIfInBounds_ne (by omega)]
theorem setCells_grown {g:Nat}:∀ (vs:List Value) (o:Nat) (w:World),w.grownBy (w.setCells g o vs) (some g)
 | [],_,w=>⟨rfl,rfl,rfl,Nat.le_refl _,fun _ _ _=>rfl⟩
 |v::r,o,w=>by
  have h:=setCells_grown r (o+1) (w.setCell ⟨g,o,none⟩ v) (g:=g);have hs:(w.setCell ⟨g,o,none⟩ v).heap.size=w.heap.size:=by simp[World.setCell]
  refine⟨h.os,h.tape,h.output,by rw[← hs];exact h.size,fun k hk hne=>(h.block k (by rw[hs];exact hk) hne).trans (Below.heap_setCell w ⟨g,o,none⟩ v k (fun e=>hne (by rw[e])))⟩
theorem clear_tail40 {w:World} {base:Nat} {ok:Nat→Prop} {A:Option Addr} {c:Nat} {xs:List S29} (m:Nat) (h:k29.R 29 w base ok (.slice A xs.length c) xs) (hm:m≤xs.length):
  ∃ w',(∀ ty,(Builtin.clear_ #[26] ty #[.slice (if c=m then A else A.map (·.add (m*2))) (xs.length-m) (c-m)]).run Try.prog w= .ok (.tuple #[]) w')∧k29.R 29 w' base ok (.slice A m c) (xs.take m)∧w.grownBy w' (Value.slice A xs.length c).ownBlock:=by
 have ht:=Kd.R_take h hm;have hu:=Try.underlying26;have hrefl:w.grownBy w (Value.slice A xs.length c).ownBlock:=⟨rfl,rfl,rfl,Nat.le_refl _,fun _ _ _=>rfl⟩
 by_cases h0:xs.length-m=0
 ·refine ⟨w,fun ty=>?_,ht,hrefl⟩;rw[h0];generalize (if c=m then A else A.map (·.add (m*2)))=A'
  cases A'<;>simp[Builtin.clear_,run_underlying hu,Result.andThen]
 ·have ho:=h.2;obtain⟨inner,ho,hr⟩:=ho;obtain⟨hl,⟨e,hz⟩|⟨g,cap,cur,e,hb,hh,h1,h2,h3,h4⟩⟩:=ho
  ·omega
  ·injection e with e1 e2 e3
   subst e1;subst e3;have hcm:¬ c=m:=by omega
   rw[if_neg hcm];have hadd:(Option.map (fun x:Addr=>x.add (m*2)) (some (⟨g,0,none⟩:Addr)))=some ⟨g,m*2,none⟩:=by simp[Addr.add];try omega
   rw[hadd];have hsz:k29.sz=2:=rfl;rw[hsz]at h3;have hzv:∀ w,(zeroValue 29).run Try.prog w= .ok (.agg #[.int .i64 0,.int .i64 0]) w:=fun w=>Try.zeroValue29 w;have hlen:(Builtin.zeroCells (Value.agg #[.int .i64 0,.int .i64 0]).cells (xs.length-m)).toList.length=(xs.length-m)*2:=by simp[Builtin.zeroCells,Value.cells]
   have hone:∀ v∈(Builtin.zeroCells (Value.agg #[.int .i64 0,.int .i64 0]).cells (xs.length-m)).toList,v.oneCell'=true:=by
    intro v hv;simp only[Builtin.zeroCells,Value.cells,Array.toList_map,List.mem_map]at hv;obtain⟨i,_,rfl⟩:=hv;have:i % 2=0∨i % 2=1:=by omega
    rcases this with e|e<;>simp[e,Value.oneCell']
   have hst:=run_storeCells_cells (P:=Try.prog) g (m*2) (Builtin.zeroCells (Value.agg #[.int .i64 0,.int .i64 0]).cells (xs.length-m)).toList 0 w
    (by
     intro j hj;rw[hlen]at hj;simp only[World.cell?,hh];have:m*2+j<cur.size:=by rw[h3];omega
     simp[this])
    (by intro j hj;simp[World.frozen?,hh]) hone
   simp only[Nat.add_zero]at hst;obtain⟨cur',k1,k2,k3⟩:=setCells_blk (Builtin.zeroCells (Value.agg #[.int .i64 0,.int .i64 0]).cells (xs.length-m)).toList (m*2) w cur hh;have hg:=setCells_grown (g:=g) (Builtin.zeroCells (Value.agg #[.int .i64 0,.int .i64 0]).cells (xs.length-m)).toList (m*2) w;refine⟨_,fun ty=>?_,?_,hg⟩
   ·obtain ⟨q,hq⟩:∃ q,xs.length-m=q+1:=⟨xs.length-m-1,by omega⟩;rw[hq]at hst ⊢
    simp[Builtin.clear_,run_underlying hu,hzv,hst,Result.andThen]
   ·obtain ⟨t0,inner',tw,tr⟩:=ht;refine⟨t0,inner',⟨tw.1,.inr ⟨g,c,cur',by rw[List.length_take,Nat.min_eq_left hm],hb,k1,?_,h2,by rw[k2,h3,hsz],?_⟩⟩,?_⟩
    ·rw [List.length_take];omega
    ·have hto:cur.toList.take ((xs.take m).length*k29.sz)=inner':=by
      obtain⟨_,⟨e',_⟩|⟨g',cap',cur2,e',_,hh',_,_,_,h4'⟩⟩:=tw
      ·cases e'
      ·have f1:some g=some g':=congrArg Value.ownBlock e';obtain rfl:=Option.some.inj f1;rw[hh]at hh';have hc2:cur=cur2:=by
        have:=Option.some.inj hh';simp only[Obj.cells.injEq]at this;exact this.1
       rw[hc2];exact h4'
     rw[← hto]
     apply List.ext_getElem?
     intro j;rw[List.length_take,Nat.min_eq_left hm,hsz]
     by_cases hj:j<m*2
     ·rw [List.getElem?_take_of_lt hj,List.getElem?_take_of_lt hj,Array.getElem?_toList,Array.getElem?_toList,k3 j hj]
     ·rw [List.getElem?_take_eq_none (by omega),List.getElem?_take_eq_none (by omega)]
    ·exact tr
theorem R_base40 {w:World} {base:Nat} {ok:Nat→Prop} {v:Value} {xs:List S29} (h:k29.R 29 w base ok v xs) (k:Nat) (hk:v.ownBlock=some k):base≤k:=by
 obtain⟨_,inner,ho,_⟩:=h;obtain⟨_,⟨e,_⟩|⟨g,cap,cur,e,hb,_⟩⟩:=ho
 ·rw [e]at hk;cases hk
 ·rw [e]at hk;obtain rfl:g=k:=Option.some.inj hk;exact hb
theorem below_grown40 {w0 w w1:World} {ok:Nat→Prop} {v:Value} {xs:List S29} (hB:Below w0.heap.size w0 w) (h:k29.R 29 w w0.heap.size ok v xs) (hg:w.grownBy w1 v.ownBlock):Below w0.heap.size w0 w1:=
 ⟨hg.os.trans hB.os,hg.tape.trans hB.tape,hg.output.trans hB.output,Nat.le_trans hB.size hg.size,fun k hk=>(hg.block k (Nat.lt_of_lt_of_le hk hB.size) (fun e=>absurd (R_base40 h k e.symm) (by omega))).trans (hB.block k hk)⟩
def api_Range_25.l0:Nat→List (S29)→Int→Int→Int→Option ((List (S29)))
 |0,_,_,_,_=>none
 |k+1,x0,x1,x5,x6=>if x6<(x0.length:Int)then(if 0≤x6 then((L_LayersIn_2.f ((rd_T29 x0 x6).f0) ((rd_T29 x0 x6).f1) x1).bind fun t411=>(if t411=true then(api_Range_25.l0 k x0 x1 x5 (wrap64 (x6+1)))else(if 0≤x5 then(if x5<(x0.length:Int)then(api_Range_25.l0 k (x0.set (x5:Int).toNat (⟨(rd_T29 x0 x6).f0,(rd_T29 x0 x6).f1⟩:S29)) x1 (wrap64 (x5+1)) (wrap64 (x6+1)))else(none))else(none))))else(none))else(if 0≤x5 then(if x5≤(x0.length:Int)then(some (x0.take (x5:Int).toNat))else(none))else(none))
def api_Range_25.f (k:Nat) (l0:List (S29)) (a1:Int):Option ((List (S29))):=(api_Range_42.f k l0 a1).bind fun t408=>(if t408=(-1)then(some l0)else(api_Range_25.l0 k l0 a1 t408 (wrap64 (t408+1))))
theorem api_Range_25.mono_l:∀ k,(∀ y0 y1 y2 y3,LeO (api_Range_25.l0 k y0 y1 y2 y3) (api_Range_25.l0 (k+1) y0 y1 y2 y3))
 |0=>fun _ _ _ _ r h=>by simp[api_Range_25.l0]at h
 | k+1=>by
  have ih0:=api_Range_25.mono_l k
  ·intro y0 y1 y2 y3;unfold api_Range_25.l0
   repeat' with_reducible first
    |exact ih0 ..
    |exact api_Range_42.mono ..
    |exact LeO.refl ..
    |exact LeO.none ..
    |refine LeO.ite ?_ ?_
    |refine LeO.bind ?_ (fun _=>?_)
theorem api_Range_25.mono:∀ a0 a1 k,LeO (api_Range_25.f k a0 a1) (api_Range_25.f (k+1) a0 a1):=by
 intro a0 a1 k;have ih0:=api_Range_25.mono_l k;unfold api_Range_25.f
 repeat' with_reducible first
  |exact ih0 ..
  |exact api_Range_42.mono ..
  |exact LeO.refl ..
  |exact LeO.none ..
  |refine LeO.ite ?_ ?_
  |refine LeO.bind ?_ (fun _=>?_)
theorem api_Range_25.calls (k:Nat) (P0_:Nat→Prop) (u9000_:Value) (l0:List (S29)) (a1:Int) (r:List (S29)) (B:Nat) (b0 b1:Int) (w0 w:World) (hbx:w.heap[B]?=some (.cells #[.int .i64 b0,.int .i64 b1,.int .i64 a1] 37 (0,0))) (hPB:¬ P0_ B) (hB:Below w0.heap.size w0 w) (ho0:Kd.R k29 29 w w0.heap.size P0_ u9000_ l0) (H:api_Range_25.f k l0 a1=some r):
  Calls Try.prog 25 #[u9000_,.func (.func 26) #[] #[.pointer (some ⟨B,0,none⟩)]] w fun e w'=>∃ v0_:Value,e= .returned (v0_)∧Kd.R k29 29 w' w0.heap.size (fun k_=>(P0_ k_∨w.heap.size≤k_)) v0_ r∧Below w0.heap.size w0 w'∧Kept w w' (fun k_=>P0_ k_):=by
 have hu29:=Try.underlying29;have HX:=m0 hbx;have HPB:=m0 hPB;clear hbx hPB;have HO0:=m0 (show Kd.R k29 29 w w0.heap.size (fun k_=>(P0_ k_∨w.heap.size≤k_)) u9000_ l0 from Kd.R_mono ho0 (fun k_ hk=>(.inl hk)));have HK:=m0 (Kept.refl w (fun k_=>P0_ k_));have HW0:=m0 hB.size;have HB:=m0 hB;clear hB;unfold api_Range_25.f at H;replace H:=oa H;obtain⟨t408,A3,H⟩:=H;(try dsimp only at H)
 by_cases c4:t408=(-1)
 ·rw [if_pos c4]at H;have c4b0:=beq_iff_eq.mpr c4;have c4b1:=bne_eq_false_iff_eq.mpr c4;clear c4;obtain rfl:=Option.some.inj H;obtain⟨Ao5,co5,eo5⟩:=Kd.R_slice HO0.out;subst eo5;go_enter Try.func25,Try.ntmps25
  go_wp2_with (first|((with_reducible refine gc 42 rfl ?_);refine gl (some 10) Try.func42 #[.slice Ao5 l0.length co5,.func (.func 26) #[] #[.pointer (some ⟨B,0,none⟩)]] ?_;(with_reducible refine(api_Range_42.calls k _ _ l0 a1 t408 B b0 b1 _ ?sideb ?side1 ?side2 A3.out).mono ?_);(case sideb=>exact(by(with_reducible repeat(first|refine blk_drewN ?_ _|refine blk_drew ?_|refine blk_alloc ?_ _));exact HX.out));(case side1=>exact bc (Kd.R_reads' HO0.out).2.2);(case side2=>exact(Kd.R_reads' HO0.out).2.1);rintro e w6 ⟨rfl,hb⟩;refine⟨_,rfl,?_⟩;replace HO0:=rb HO0 hb;replace HK:=m0 (Kept.below (S:=(fun k_=>P0_ k_)) (by repeat(first|(with_reducible first|exact HK.out|apply Kept.alloc|apply Kept.drewN|apply Kept.drew)|exact HK.out)) hb);replace HB:=sb HB hb;(try clear hb)))
  go_ret
  exact⟨_,by first|rfl|(simp[errW_none,errW_some]<;>rfl)|(simp[*,errW_none,errW_some]<;>rfl),by(with_reducible repeat(first|apply Kd.R_alloc|apply Kd.R_drewN|apply Kd.R_drew));exact HO0.out,by repeat(first|(with_reducible first|exact HB.out|apply below_alloc|apply pw_below_drewN|apply below_drew1)|exact HB.out),by repeat(first|(with_reducible first|exact HK.out|apply Kept.alloc|apply Kept.drewN|apply Kept.drew)|exact HK.out)⟩
 ·rw [if_neg c4]at H;have c4b0:=beq_eq_false_iff_ne.mpr c4;have c4b1:=bne_iff_ne.mpr c4;have H':=m0 H;clear H;obtain⟨Ao7,co7,eo7⟩:=Kd.R_slice HO0.out;subst eo7;go_enter Try.func25,Try.ntmps25
  go_wp2_with (first|((with_reducible refine gc 42 rfl ?_);refine gl (some 10) Try.func42 #[.slice Ao7 l0.length co7,.func (.func 26) #[] #[.pointer (some ⟨B,0,none⟩)]] ?_;(with_reducible refine(api_Range_42.calls k _ _ l0 a1 t408 B b0 b1 _ ?sideb ?side1 ?side2 A3.out).mono ?_);(case sideb=>exact(by(with_reducible repeat(first|refine blk_drewN ?_ _|refine blk_drew ?_|refine blk_alloc ?_ _));exact HX.out));(case side1=>exact bc (Kd.R_reads' HO0.out).2.2);(case side2=>exact(Kd.R_reads' HO0.out).2.1);rintro e w8 ⟨rfl,hb⟩;refine⟨_,rfl,?_⟩;replace HO0:=rb HO0 hb;replace HK:=m0 (Kept.below (S:=(fun k_=>P0_ k_)) (by repeat(first|(with_reducible first|exact HK.out|apply Kept.alloc|apply Kept.drewN|apply Kept.drew)|exact HK.out)) hb);replace HB:=sb HB hb;(try clear hb)))
  go_loopg [5,6] k (fun kq v5 v6 w'=>∃ (x0_1:List (S29)) (x5_1:Int) (x6_1:Int),v5= .int .i64 x5_1∧v6= .int .i64 x6_1∧Aside0 (api_Range_25.l0 kq x0_1 a1 x5_1 x6_1=some r)∧Aside0 (kq≤k)∧Aside0 (Kd.R k29 29 w' w0.heap.size (fun k_=>(P0_ k_∨w.heap.size≤k_)) (.slice Ao7 l0.length co7) x0_1)∧Aside0 (Kept w w' (fun k_=>P0_ k_))∧Aside0 (Below w0.heap.size w0 w'))
  case atStart=>exact⟨(l0),(t408),(wrap64 (t408+1)),rz,rz,H',⟨Nat.le_refl _⟩,⟨br HO0.out⟩,⟨by repeat(first|(with_reducible first|exact HK.out|apply Kept.alloc|apply Kept.drewN|apply Kept.drew)|exact HK.out)⟩,⟨bz⟩⟩
  case round=>
   clear H';obtain⟨x0_1,x5_1,x6_1,rfl,rfl,HA,HK1,HO_0,HK,HB⟩:=hrel;have hl0_1:=(Kd.R_reads' HO_0.out).1;rw[hl0_1]at HO_0;(try simp only[hl0_1])
   cases gk with
   |zero=>exact absurd HA.out (by simp[api_Range_25.l0])
   | succ k1=>
    have H:=HA.out;clear HA;simp only[api_Range_25.l0]at H
    by_cases c9:x6_1<(x0_1.length:Int)
    ·rw [if_pos c9]at H;have c9b0:=decide_eq_true c9;clear c9
     by_cases c10:0≤x6_1
     ·rw [if_pos c10]at H;have c10b0:=decide_eq_true c10;clear c10;replace H:=oa H;obtain⟨t411,A11,H⟩:=H;(try dsimp only at H)
      by_cases c12:t411=true
      ·subst c12;rw[if_pos rfl]at H;have H':=m0 H;clear H;have p409:0≤(x6_1:Int):=od;have q409:x6_1<(x0_1.length:Int):=od;obtain⟨ad409,e409,hx409_0,hx409_1⟩:=at_T29 (Kd.R_reads' HO_0.out).2.2 x6_1 p409 q409
       cases e409
       replace p409:=eq_true p409;replace q409:=eq_true q409
       go_wp2_with (first|((with_reducible refine ga 7 rfl ?_);refine be 7 29 #[.int .i64 0,.int .i64 0] ?_;intro gb410 hg w13 hbox hb;replace HO_0:=m0 (Kd.R_below (Kd.R_elderB (br HO_0.out) gb410 (Nat.le_of_eq hg.symm)) hb);have BK410:=m0 hbox;have GW410:=m0 ((by rw[hg];exact(by first|exact HK.out.1|exact(show Kept w _ (fun k_=>P0_ k_)from by repeat(first|(with_reducible first|exact HK.out|apply Kept.alloc|apply Kept.drewN|apply Kept.drew)|exact HK.out)).1):w.heap.size≤gb410));replace HK:=m0 (Kept.below (S:=(fun k_=>P0_ k_)) (by repeat(first|(with_reducible first|exact HK.out|apply Kept.alloc|apply Kept.drewN|apply Kept.drew)|exact HK.out)) hb);have GE410:=m0 ((by rw[hg];exact(below_size bz):w0.heap.size≤gb410));replace HB:=sb HB hb;clear hb hbox hg;obtain⟨_,_,_,_⟩:=b2 BK410)|((with_reducible refine gate_via_ (t:=26) rfl ?_);refine goesLC_ (some 28) rfl rfl 26 #[.pointer (some ⟨B,0,none⟩)] Try.func26 (by kernel_rfl) rfl #[.agg #[.int .i64 ((rd_T29 x0_1 x6_1).f0),.int .i64 ((rd_T29 x0_1 x6_1).f1)],.pointer (some ⟨B,0,none⟩)] rfl (by rfl) (by first|rfl|(simp;done)|(simp;rfl)) ?_;(with_reducible refine(L_LayersIn_2.calls ((rd_T29 x0_1 x6_1).f0) ((rd_T29 x0_1 x6_1).f1) a1 true B b0 b1 _ ?sideb A11.out).mono ?_);(case sideb=>exact(by(with_reducible repeat(first|refine blk_drewN ?_ _|refine blk_drew ?_|refine blk_alloc ?_ _));exact blk_kept HX.out (show Kept w _ (fun k_=>P0_ k_)from by repeat(first|(with_reducible first|exact HK.out|apply Kept.alloc|apply Kept.drewN|apply Kept.drew|refine Kept.setCell ?_ (.inr GW410.out) _)|exact HK.out)) HPB.out));rintro e w15 ⟨rfl,hb⟩;refine⟨_,rfl,?_⟩;replace HO_0:=m0 (Kd.R_below (by(with_reducible repeat(first|apply Kd.R_alloc|apply Kd.R_drewN|apply Kd.R_drew));exact(Kd.R_mono (rf (rf (rn gb410 HO_0.out (·.2)) (·.2)) (·.2)) (fun _ h_=>h_.1))) hb);replace BK410:=m0 (blk_below (g:=gb410) (o:= .cells #[.int .i64 ((rd_T29 x0_1 x6_1).f0),.int .i64 ((rd_T29 x0_1 x6_1).f1)] 29 (0,0)) (bq BK410.out) hb);replace HK:=m0 (Kept.below (S:=(fun k_=>P0_ k_)) (by repeat(first|(with_reducible first|exact HK.out|apply Kept.alloc|apply Kept.drewN|apply Kept.drew|refine Kept.setCell ?_ (.inr GW410.out) _)|exact HK.out)) hb);replace HB:=sb HB hb;(try clear hb)))
       (try simp only[← hl0_1])
       go_roundg k1
       case measure=>have:=HK1.out;omega
       case rel=>exact⟨(x0_1),(x5_1),(wrap64 (x6_1+1)),rz,rz,H',⟨by have:=HK1.out;omega⟩,⟨by (try simp only[hl0_1]);(with_reducible repeat(first|apply Kd.R_alloc|apply Kd.R_drewN|apply Kd.R_drew));exact Kd.R_mono HO_0.out (fun _ hk=>hk.1)⟩,⟨by repeat(first|(with_reducible first|exact HK.out|apply Kept.alloc|apply Kept.drewN|apply Kept.drew|refine Kept.setCell ?_ (.inr GW410.out) _)|exact HK.out)⟩,⟨bz⟩⟩
      ·replace c12:=Bool.eq_false_iff.mpr c12;subst c12;rw[if_neg (show ¬ (false=true) by decide)]at H
       by_cases c16:0≤x5_1
       ·rw [if_pos c16]at H;have c16b0:=decide_eq_true c16;clear c16
        by_cases c17:x5_1<(x0_1.length:Int)
        ·rw [if_pos c17]at H;have c17b0:=decide_eq_true c17;clear c17;obtain⟨y412,hy412⟩:∃ y_:List (S29),y_=(x0_1.set (x5_1:Int).toNat (⟨(rd_T29 x0_1 x6_1).f0,(rd_T29 x0_1 x6_1).f1⟩:S29)):=⟨_,rfl⟩;replace H:(api_Range_25.l0 k1 y412 a1 (wrap64 (x5_1+1)) (wrap64 (x6_1+1)))=some r:=by first|(rw[hy412];with_reducible exact H)|(have H2_:=(Option.bind_some _ _).symm.trans H;rw[hy412];with_reducible exact H2_)|(have H2_:=(Option.bind_some _ _).symm.trans H;with_reducible exact H2_)|with_reducible exact H|(rw[hy412];exact H)|exact H
         have Ny412:=m0 hy412;clear hy412;have H':=m0 H;clear H;have p409:0≤(x6_1:Int):=od;have q409:x6_1<(x0_1.length:Int):=od;obtain⟨ad409,e409,hx409_0,hx409_1⟩:=at_T29 (Kd.R_reads' HO_0.out).2.2 x6_1 p409 q409
         cases e409
         replace p409:=eq_true p409;replace q409:=eq_true q409
         go_wp2_with (first|((with_reducible refine ga 7 rfl ?_);refine be 7 29 #[.int .i64 0,.int .i64 0] ?_;intro gb410 hg w19 hbox hb;replace HO_0:=m0 (Kd.R_below (Kd.R_elderB (br HO_0.out) gb410 (Nat.le_of_eq hg.symm)) hb);have BK410:=m0 hbox;have GW410:=m0 ((by rw[hg];exact(by first|exact HK.out.1|exact(show Kept w _ (fun k_=>P0_ k_)from by repeat(first|(with_reducible first|exact HK.out|apply Kept.alloc|apply Kept.drewN|apply Kept.drew)|exact HK.out)).1):w.heap.size≤gb410));replace HK:=m0 (Kept.below (S:=(fun k_=>P0_ k_)) (by repeat(first|(with_reducible first|exact HK.out|apply Kept.alloc|apply Kept.drewN|apply Kept.drew)|exact HK.out)) hb);have GE410:=m0 ((by rw[hg];exact(below_size bz):w0.heap.size≤gb410));replace HB:=sb HB hb;clear hb hbox hg;obtain⟨_,_,_,_⟩:=b2 BK410)|((with_reducible refine gate_via_ (t:=26) rfl ?_);refine goesLC_ (some 28) rfl rfl 26 #[.pointer (some ⟨B,0,none⟩)] Try.func26 (by kernel_rfl) rfl #[.agg #[.int .i64 ((rd_T29 x0_1 x6_1).f0),.int .i64 ((rd_T29 x0_1 x6_1).f1)],.pointer (some ⟨B,0,none⟩)] rfl (by rfl) (by first|rfl|(simp;done)|(simp;rfl)) ?_;(with_reducible refine(L_LayersIn_2.calls ((rd_T29 x0_1 x6_1).f0) ((rd_T29 x0_1 x6_1).f1) a1 false B b0 b1 _ ?sideb A11.out).mono ?_);(case sideb=>exact(by(with_reducible repeat(first|refine blk_drewN ?_ _|refine blk_drew ?_|refine blk_alloc ?_ _));exact blk_kept HX.out (show Kept w _ (fun k_=>P0_ k_)from by repeat(first|(with_reducible first|exact HK.out|apply Kept.alloc|apply Kept.drewN|apply Kept.drew|refine Kept.setCell ?_ (.inr GW410.out) _)|exact HK.out)) HPB.out));rintro e w21 ⟨rfl,hb⟩;refine⟨_,rfl,?_⟩;replace HO_0:=m0 (Kd.R_below (by(with_reducible repeat(first|apply Kd.R_alloc|apply Kd.R_drewN|apply Kd.R_drew));exact(Kd.R_mono (rf (rf (rn gb410 HO_0.out (·.2)) (·.2)) (·.2)) (fun _ h_=>h_.1))) hb);replace BK410:=m0 (blk_below (g:=gb410) (o:= .cells #[.int .i64 ((rd_T29 x0_1 x6_1).f0),.int .i64 ((rd_T29 x0_1 x6_1).f1)] 29 (0,0)) (bq BK410.out) hb);replace HK:=m0 (Kept.below (S:=(fun k_=>P0_ k_)) (by repeat(first|(with_reducible first|exact HK.out|apply Kept.alloc|apply Kept.drewN|apply Kept.drew|refine Kept.setCell ?_ (.inr GW410.out) _)|exact HK.out)) hb);replace HB:=sb HB hb;(try clear hb);obtain⟨_,_,_,_⟩:=b2 BK410;have p18:0≤(x5_1:Int):=od;have q18:(x5_1:Int)<((x0_1.length:Int):Int):=od;obtain⟨go18,co18,eo18,gb18,gl18,cl18,HG18⟩:=Kd.R_form HO_0.out (by omega);(first|cases eo18|(injection eo18 with ea_ en_ ec_;(first|subst ea_|(injection ea_ with ea_;subst ea_));subst ec_;clear en_));have GB18:=m0 gb18;have GG18:=m0 HG18;clear gb18 gl18 HG18;have HMgo18:=m0 (show(P0_ go18∨w.heap.size≤go18)from(HO_0.out.1 _ rfl).1);(first|simp only[add_plain]at hx409_0|skip);(first|simp only[add_plain]at hx409_1|skip);obtain⟨ce18,hcl18,hM18,hcc18,hfr18⟩:=Kd.R_elem HO_0.out z29 (x5_1:Int) p18 q18;obtain rfl:=k29_openM hM18;have hx18_0:w21.cell? ⟨go18,(x5_1:Int).toNat*2,none⟩=some (.int .i64 ((rd_T29 x0_1 x5_1).f0)):=hcc18 0 _ rfl;have hx18_1:w21.cell? ⟨go18,(x5_1:Int).toNat*2+1,none⟩=some (.int .i64 ((rd_T29 x0_1 x5_1).f1)):=hcc18 1 _ rfl;have hf18_0:w21.frozen? ⟨go18,(x5_1:Int).toNat*2,none⟩=false:=hfr18 0;have hf18_1:w21.frozen? ⟨go18,(x5_1:Int).toNat*2+1,none⟩=false:=hfr18 1;clear hcl18 hcc18 hfr18 hM18;replace p18:=eq_true p18;replace q18:=eq_true q18;have HX23:=m0 (show Kd.R k29 29 w21 w0.heap.size (fun k_=>(P0_ k_∨w.heap.size≤k_)∧k_≠gb410) (.slice (some ⟨go18,0,none⟩) x0_1.length co7) x0_1 from(br HO_0.out));obtain⟨ce23,hcl23,hM23,hcc23,hfr23⟩:=Kd.R_elem HX23.out z29 (x5_1:Int) (od) (by have h_:(x5_1:Int)<((x0_1.length:Int):Int):=od;first|exact h_|(have e_:=(Kd.R_reads' HO_0.out).1;omega)|simpa using h_);obtain rfl:=k29_openM hM23;have HP23:=Kd.R_seg HX23.out (x5_1:Int) (od) (by have h_:(x5_1:Int)<((x0_1.length:Int):Int):=od;first|exact h_|(have e_:=(Kd.R_reads' HO_0.out).1;omega)|simpa using h_) (seg:=[.int .i64 ((rd_T29 x0_1 x6_1).f0),.int .i64 ((rd_T29 x0_1 x6_1).f1)]) (j:=0) hcl23 hcc23 (show 2≤2 from by decide) (x':=(⟨(rd_T29 x0_1 x6_1).f0,(rd_T29 x0_1 x6_1).f1⟩:S29)) (k29_mkM _ _ _ (⟨(rd_T29 x0_1 x6_1).f0,(rd_T29 x0_1 x6_1).f1⟩:S29) ) (fun _ hk=>hk);have hx23_0:=hcc23 0 _ rfl;(try simp only[show (k29).sz=2 from rfl,Nat.mul_one,Nat.add_zero]at hx23_0);have hf23_0:=hfr23 0;(try simp only[show (k29).sz=2 from rfl,Nat.mul_one,Nat.add_zero]at hf23_0);have hx23_1:=hcc23 1 _ rfl;(try simp only[show (k29).sz=2 from rfl,Nat.mul_one,Nat.add_zero]at hx23_1);have hf23_1:=hfr23 1;(try simp only[show (k29).sz=2 from rfl,Nat.mul_one,Nat.add_zero]at hf23_1);clear hcl23 hcc23 hfr23 hM23)|((with_reducible refine gate_store (t:=29) (p:=33) rfl ?_);refine store_event (t:=29) (p:=33) (v:= ?vo_w24) (w1:=((w21.setCell ⟨go18,(x5_1:Int).toNat*2,none⟩ (.int .i64 ((rd_T29 x0_1 x6_1).f0))).setCell ⟨go18,(x5_1:Int).toNat*2+1,none⟩ (.int .i64 ((rd_T29 x0_1 x6_1).f1)))) ?hg ?ho ?hn ?hr ?_;(case ho=>rfl);(case hg=>rfl);(case hn=>rfl);(case hr=>first|(go_simp;done)|(go_simp;rfl));intro w24 hw;have hg:w21.grownBy w24 (some go18):=(by rw[hw];exact HP23.2);have hp_:Kd.R k29 29 w24 w0.heap.size (fun k_=>(P0_ k_∨w.heap.size≤k_)∧k_≠gb410) (.slice (some ⟨go18,0,none⟩) x0_1.length co7) y412:=(by rw[hw,Ny412.out];exact HP23.1);clear HP23;replace BK410:=m0 (blk_grown (g:=gb410) (o:= .cells #[.int .i64 ((rd_T29 x0_1 x6_1).f0),.int .i64 ((rd_T29 x0_1 x6_1).f1)] 29 (0,0)) (bk BK410.out) hg (Kd.R_away HO_0.out (fun _ hk=>hk.2)));replace HB:=m0 ((by rw[hw];exact below_set (below_set (HB.out) GB18.out) GB18.out:Below w0.heap.size w0 w24));replace HK:=m0 (Kept.of_grown (S:=(fun k_=>P0_ k_)) hg (by repeat(first|(with_reducible first|exact HK.out|apply Kept.alloc|apply Kept.drewN|apply Kept.drew|refine Kept.setCell ?_ (.inr GW410.out) _)|exact HK.out)) (fun k_ e_=>(HO_0.out.1 k_ e_).1));replace HO_0:=m0 (hp_);clear hg hw hp_))
         (try simp only[← hl0_1])
         go_roundg k1
         case measure=>have:=HK1.out;omega
         case rel=>exact⟨(y412),(wrap64 (x5_1+1)),(wrap64 (x6_1+1)),rz,rz,H',⟨by have:=HK1.out;omega⟩,⟨by (try simp only[hl0_1]);(with_reducible repeat(first|apply Kd.R_alloc|apply Kd.R_drewN|apply Kd.R_drew));exact Kd.R_mono HO_0.out (fun _ hk=>hk.1)⟩,⟨by repeat(first|(with_reducible first|exact HK.out|apply Kept.alloc|apply Kept.drewN|apply Kept.drew|refine Kept.setCell ?_ (.inr GW410.out) _)|exact HK.out)⟩,⟨bz⟩⟩
        ·rw [if_neg c17]at H;exact absurd H (by simp)
       ·rw [if_neg c16]at H;exact absurd H (by simp)
     ·rw [if_neg c10]at H;exact absurd H (by simp)
    ·rw [if_neg c9]at H;have c9b0:=decide_eq_false c9;clear c9
     by_cases c25:0≤x5_1
     ·rw [if_pos c25]at H;have c25b0:=eq_true c25;have c25b1:=decide_eq_true c25;clear c25
      by_cases c26:x5_1≤(x0_1.length:Int)
      ·rw [if_pos c26]at H;have c26b0:=eq_true c26;have c26b1:=decide_eq_true c26;clear c26;obtain⟨y413,hy413⟩:∃ y_:List (S29),y_=(x0_1.take (x5_1:Int).toNat):=⟨_,rfl⟩;replace H:(some y413)=some r:=by first|(rw[hy413];with_reducible exact H)|(have H2_:=(Option.bind_some _ _).symm.trans H;rw[hy413];with_reducible exact H2_)|(have H2_:=(Option.bind_some _ _).symm.trans H;with_reducible exact H2_)|with_reducible exact H|(rw[hy413];exact H)|exact H
       have Ny413:=m0 hy413;clear hy413;obtain rfl:=Option.some.inj H;have q27:(x5_1:Int)≤((x0_1.length:Int):Int):=od;obtain⟨i027,hi027,_,hsz27,_⟩:=info_parts info29;have hcut27:=cut_to (P:=Try.prog) 26 29 .i64 Try.underlying26 hi027 Ao7 x0_1.length co7 x5_1 (od) q27 (Kd.R_reads' HO_0.out).2.1;have hcutf:=cut_from (P:=Try.prog) 26 29 .i64 Try.underlying26 hi027 2 hsz27 Ao7 x0_1.length co7 x5_1 (od) q27;obtain⟨w50,hclr,hr27,hgr50⟩:=clear_tail40 (x5_1:Int).toNat HO_0.out (by omega);have n0_:=m0 (Kept.of_grown hgr50 HK.out (fun k hk=>HO_0.out.1 k hk));have n1_:=m0 (below_grown40 HB.out HO_0.out hgr50);clear HK HB hgr50;have HK:=n0_;have HB:=n1_;clear n0_ n1_;generalize (if co7=(x5_1:Int).toNat then Ao7 else Ao7.map (·.add ((x5_1:Int).toNat*2)))=Ac at hcutf hclr;generalize x0_1.length-(x5_1:Int).toNat=nc at hcutf hclr;generalize co7-(x5_1:Int).toNat=cc at hcutf hclr;have hy27:y413.length=(x5_1:Int).toNat:=(by rw[Ny413.out,List.length_take];omega);rw[← Ny413.out]at hr27;rw[← hy27]at hr27 hcut27;clear hy27 hi027 hsz27 HO_0;have HO415:=m0 hr27;clear hr27;replace q27:=eq_true q27
       go_wp2
       go_ret
       exact⟨_,by first|rfl|(simp[errW_none,errW_some]<;>rfl)|(simp[*,errW_none,errW_some]<;>rfl),by(with_reducible repeat(first|apply Kd.R_alloc|apply Kd.R_drewN|apply Kd.R_drew));exact HO415.out,by repeat(first|(with_reducible first|exact HB.out|apply below_alloc|apply pw_below_drewN|apply below_drew1)|exact HB.out),by repeat(first|(with_reducible first|exact HK.out|apply Kept.alloc|apply Kept.drewN|apply Kept.drew)|exact HK.out)⟩
      ·rw [if_neg c26]at H;exact absurd H (by simp)
     ·rw [if_neg c25]at H;exact absurd H (by simp)
end Go.Proofs.Ytggiijffaifajaa.A
