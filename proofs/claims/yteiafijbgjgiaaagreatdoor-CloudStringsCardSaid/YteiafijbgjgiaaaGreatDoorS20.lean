/- Walks of the program's functions (printed, made shorter), each with what it computes. -/
import Derived.Test.YteiafijbgjgiaaaGreatDoorS19
import Derived.Lib.AtoiErrMem
import Derived.Lib.AtoiAllCases
import Derived.Shelf.RegionOpen
import Derived.Test.YteiafijbgjgiaaaGreatDoorS10
import Derived.Test.YteiafijbgjgiaaaGreatDoorS17
namespace Go.Proofs.YteiafijbgjgiaaaGreatDoor.A
set_option maxHeartbeats 8000000
set_option maxRecDepth 100000
open Go.RowKit Go.Proofs.YteiafijbgjgiaaaGreatDoorW.PrintWords Go.Proofs.YteiafijbgjgiaaaGreatDoorW.PrintLast Go.Proofs.YteiafijbgjgiaaaGreatDoorW.PrintMore
attribute [local go_sem] max2_int min2_int max_two min_two max_three min_three max_four min_four
set_option linter.unusedVariables false
set_option linter.unusedSimpArgs false
section
def strings_SplitSeq.Kp (n₀ Bp Bs Bv:Nat) (W W':World):Prop:=Below n₀ W W'∧W'.heap[Bp]?=W.heap[Bp]? ∧W'.heap[Bs]?=W.heap[Bs]? ∧W'.heap[Bv]?=W.heap[Bv]?
theorem strings_SplitSeq.Kp.trans {n₀ Bp Bs Bv:Nat} {A B C:World} (h:strings_SplitSeq.Kp n₀ Bp Bs Bv A B) (k:strings_SplitSeq.Kp n₀ Bp Bs Bv B C):strings_SplitSeq.Kp n₀ Bp Bs Bv A C:=⟨h.1.trans k.1,k.2.1.trans h.2.1,k.2.2.1.trans h.2.2.1,k.2.2.2.trans h.2.2.2⟩
theorem strings_SplitSeq.Kp_putObj {n₀ Bp Bs Bv:Nat} {w:World} (hn:n₀≤w.heap.size) (hp:Bp<w.heap.size) (hs:Bs<w.heap.size) (hv:Bv<w.heap.size) (W:World) (l:Nat) (o o':Obj) (hl:w.heap.size≤l) (h:W.heap[l]?=some o) (hc:o.isCells=false) (hw:o.isWalk=false):strings_SplitSeq.Kp n₀ Bp Bs Bv W (W.putObj l o'):=
 ⟨belowK_b hn W l o o' hl h hc hw,World.putObj_heap_other (show Bp≠l by omega),World.putObj_heap_other (show Bs≠l by omega),World.putObj_heap_other (show Bv≠l by omega)⟩
theorem strings_SplitSeq.Kp.setCell {n₀ Bp Bs Bv b i:Nat} {u:Value} {W W':World} (h:strings_SplitSeq.Kp n₀ Bp Bs Bv W W') (hb:n₀≤b) (hp:Bp≠b) (hs:Bs≠b) (hv:Bv≠b):strings_SplitSeq.Kp n₀ Bp Bs Bv W (W'.setCell ⟨b,i,none⟩ u):=
 ⟨h.1.setCell (p:=⟨b,i,none⟩) hb _,(Below.heap_setCell W' ⟨b,i,none⟩ u _ hp).trans h.2.1,(Below.heap_setCell W' ⟨b,i,none⟩ u _ hs).trans h.2.2.1,(Below.heap_setCell W' ⟨b,i,none⟩ u _ hv).trans h.2.2.2⟩
theorem strings_SplitSeq.Kp.below {n₀ Bp Bs Bv:Nat} {W W1 W':World} (h:strings_SplitSeq.Kp n₀ Bp Bs Bv W W1) (hn:n₀≤W1.heap.size) (hp:Bp<W1.heap.size) (hs:Bs<W1.heap.size) (hv:Bv<W1.heap.size) (hb:Below W1.heap.size W1 W'):strings_SplitSeq.Kp n₀ Bp Bs Bv W W':=
 ⟨h.1.trans (hb.mono hn),(hb.block _ hp).trans h.2.1,(hb.block _ hs).trans h.2.2.1,(hb.block _ hv).trans h.2.2.2⟩
theorem strings_SplitSeq.Kp.refl (n₀ Bp Bs Bv:Nat) (W:World):strings_SplitSeq.Kp n₀ Bp Bs Bv W W:=⟨Below.refl _ _,rfl,rfl,rfl⟩
def strings_SplitSeq.Rd (fr:List (List UInt8)) (k:Nat) (x:Value) (_:World):Prop:=∃ b,fr[k]?=some b∧x= .string ⟨b.toArray⟩
def strings_SplitSeq.len (B:Nat) (w:World):Nat:=match w.cell? ⟨B,0,none⟩with|some (.string r)=>r.size|_=>0
attribute [local go_sem] Oper.semAt_some
theorem strings_SplitSeq.yields (n:Nat) (hn:1≤n) (c:UInt8) (s:ByteArray) (hsz:s.size≤1000000) (n₀ Bp Bs Bv:Nat) (w:World) (hps:Bp≠Bs) (hvs:Bv≠Bs) (hn0:n₀≤Bs)
  (hp:w.heap[Bp]?=some (.cells #[.string ⟨#[c]⟩] 9 (0,0))) (hs:w.heap[Bs]?=some (.cells #[.string s] 9 (0,0))) (hv:w.heap[Bv]?=some (.cells #[.int .i64 0] 3 (0,0))):
  YieldsB Fence.wide n Tryz.prog 89 #[.pointer (some ⟨Bp,0,none⟩),.pointer (some ⟨Bs,0,none⟩),.pointer (some ⟨Bv,0,none⟩)] (fun _ x=> #[x]) (strings_SplitSeq.Rd (cutB c s.data.toList)) (strings_SplitSeq.Kp n₀ Bp Bs Bv) (cutB c s.data.toList).length Bs 9 w:=by
 intro l J Jx W hW hJ hJx hJB _ hY hJ0;have hp':=(hW.block _ (blk_lt hp)).trans hp;have hs':=(hW.block _ (blk_lt hs)).trans hs;have hv':=(hW.block _ (blk_lt hv)).trans hv;refine callsIn_of_wp Tryz.func89 rfl trivial ?_ rfl;simp only[Tryz.ntmps89,List.size_toArray,List.length_cons,List.length_nil,Nat.reduceAdd,Nat.reduceSub,Array.replicate_succ,Array.replicate_zero,List.push_toArray,List.append_toArray,List.nil_append,List.cons_append];have hcp:W.cell? ⟨Bp,0,none⟩=some (.string ⟨#[c]⟩):=(blk_cell hp' 0).trans rfl;have HP:=m0 hp';have HS:=m0 hs';have HV:=m0 hv';have HY:=m0 hY;have HJ:=m0 hJ;have HJB:=m0 hJB;have HJ0:=m0 hJ0;clear hp' hs' hv' hY hJ hJB hJ0 hJx hW hp hs hv;have HLEN:=m0 (List.length_pos_iff.mpr (cutB_ne c s.data.toList));have HSZ:=m0 hsz;clear hsz
 gi_wp2
 gi_loopw [7] (fun _ wr=>∃ (k:Nat) (r:ByteArray),Aside0 (k<(cutB c s.data.toList).length)∧Aside0 (cutB c r.data.toList=(cutB c s.data.toList).drop k)∧Aside0 (r.size≤1000000)∧Aside0 (J k wr)∧Aside0 (wr.heap[Bp]?=some (.cells #[.string ⟨#[c]⟩] 9 (0,0)))∧Aside0 (wr.heap[Bs]?=some (.cells #[.string r] 9 (0,0)))∧Aside0 (wr.heap[Bv]?=some (.cells #[.int .i64 0] 3 (0,0)))) (fun _ wr=>strings_SplitSeq.len Bs wr)
 case atStart=>exact⟨0,s,⟨HLEN.out⟩,⟨rfl⟩,⟨HSZ.out⟩,⟨HJ0.out⟩,HP,HS,HV⟩
 case round=>
  obtain⟨k,r,hk,hr,hrs,hJs,hBp,hBs,hBv⟩:=hrel;have hcp:wr.cell? ⟨Bp,0,none⟩=some (.string ⟨#[c]⟩):=(blk_cell hBp.out 0).trans rfl;have hcs:wr.cell? ⟨Bs,0,none⟩=some (.string r):=(blk_cell hBs.out 0).trans rfl;have hcv:wr.cell? ⟨Bv,0,none⟩=some (.int .i64 0):=(blk_cell hBv.out 0).trans rfl;have hfs:=blk_frozen hBs.out 0;have hfr:∀ b rest,cutB c r.data.toList=b::rest→(cutB c s.data.toList)[k]?=some b∧(cutB c s.data.toList).drop (k+1)=rest:=by
   intro b rest e;have e2:=hr.out.symm.trans e;exact⟨by have:=congrArg (fun z=>z[0]?) e2;simpa using this,by rw[← List.drop_drop,e2];rfl⟩
  have HFR:=m0 hfr;clear hfr
  by_cases hi:Lib.indexByte r.data.toList c<0
  ·have HI:=m0 (cutB_none c _ hi);have hkl:k+1=(cutB c s.data.toList).length:=by
    have h1:=(HFR.out _ _ HI.out).2;have h2:=List.drop_eq_nil_iff.mp h1;have:=hk.out
    omega
   have HKL:=m0 hkl;obtain⟨fn,tmps,assign,body,hy,hR⟩:=HY.out k (.string r) wr hk.out ⟨_,(HFR.out _ _ HI.out).1,rfl⟩ hJs.out;have HR:=m0 hR;clear hR hkl
   gi_wp2_with (first|(refine⟨trivial,?_⟩;gi_at_call 91;refine(callsIn_wide.2 (Tryz.strings_Index_one r c wr)).mono ?_;rintro e w1 ⟨rfl,rfl⟩))
   refine HR.out.mono ?_;rintro e W3 (⟨rfl,hJ3,hk3⟩|⟨rfl,hJx3⟩)
   ·have HJ3:=m0 hJ3;clear hJ3 hk3
    gi_wp2
    go_end0
    exact⟨⟨_,rfl⟩,.inl (by rw[← HKL.out];exact HJ3.out)⟩
   ·have HJ3:=m0 hJx3;clear hJx3
    gi_wp2
    go_end0
    exact⟨⟨_,rfl⟩,.inr ⟨k+1,by rw[HKL.out];exact Nat.le_refl _,HJ3.out⟩⟩
  ·obtain ⟨i,hi'⟩:∃ i:Nat,Lib.indexByte r.data.toList c=(i:Int):=⟨(Lib.indexByte r.data.toList c).toNat,by omega⟩;have hc2:=cutB_some c r.data.toList (by omega);rw[hi',Int.toNat_natCast]at hc2;have hrl:r.data.toList.length=r.size:=by rw[Array.length_toList];rfl
   have him:(i:Int)<(r.size:Int):=by have:=hc2.1;omega
   have hx1:(⟨(r.data.toList.take i).toArray⟩:ByteArray)=r.extract 0 i:=by
    apply ByteArray.ext
    rw[ByteArray.data_extract]
    apply Array.ext'
    simp
   have hx2:(r.extract (i+1) r.size).data.toList=r.data.toList.drop (i+1):=by
    rw[ByteArray.data_extract,Array.toList_extract,List.extract_eq_take_drop,List.take_of_length_le];rw[List.length_drop,hrl];omega
   have HC2:=m0 hc2;have HX2:=m0 hx2;have hw0:wrap64 (i:Int)=(i:Int):=by have:=hrs.out;unfold wrap64;omega
   have hw1:wrap64 ((i:Int)+1)=((i+1:Nat):Int):=by have:=hrs.out;unfold wrap64;omega
   have him1:(i:Int)≤(r.size:Int):=by omega
   have him2:((i+1:Nat):Int)≤(r.size:Int):=by omega
   have him3:(i:Int)+1≤(r.size:Int):=by omega
   have hnn:¬ (i:Int)<0:=by omega
   obtain⟨fn,tmps,assign,body,hy,hR⟩:=HY.out k (.string (r.extract 0 i)) wr hk.out ⟨_,(HFR.out _ _ HC2.out.2).1,by rw[hx1]⟩ hJs.out;have HR:=m0 hR;clear hc2 hi hR hx1 hx2
   gi_wp2_with (first|(refine⟨trivial,?_⟩;gi_at_call 91;refine(callsIn_wide.2 (Tryz.strings_Index_one r c wr)).mono ?_;rintro e w1 ⟨rfl,rfl⟩;rw[hi']))
   refine HR.out.mono ?_;rintro e W3 (⟨rfl,hJ3,hk3⟩|⟨rfl,hJx3⟩)
   ·have hBp3:=hk3.2.1.trans hBp.out;have hBs3:=hk3.2.2.1.trans hBs.out;have hBv3:=hk3.2.2.2.trans hBv.out;have hcp3:W3.cell? ⟨Bp,0,none⟩=some (.string ⟨#[c]⟩):=(blk_cell hBp3 0).trans rfl;have hcs3:W3.cell? ⟨Bs,0,none⟩=some (.string r):=(blk_cell hBs3 0).trans rfl;have hfs3:=blk_frozen hBs3 0;have HBp3:=m0 hBp3;have HBs3:=m0 hBs3;have HBv3:=m0 hBv3;have HJ3:=m0 hJ3;clear hJ3 hk3 hBp3 hBs3 hBv3 hcp hcs hcv hfs
    gi_wp2
    go_roundw
    case rel=>
     have hrest:=(HFR.out _ _ HC2.out.2).2;refine⟨k+1,r.extract (i+1) r.size,⟨?_⟩,⟨by rw[HX2.out];exact hrest.symm⟩,⟨?_⟩,⟨HJB.out _ _ _ _ HJ3.out HBs3.out⟩,⟨(Below.heap_setCell W3 ⟨Bs,0,none⟩ _ _ hps).trans HBp3.out⟩,⟨blk_put HBs3.out 0 _ rfl⟩,⟨(Below.heap_setCell W3 ⟨Bs,0,none⟩ _ _ hvs).trans HBv3.out⟩⟩
     ·have h1:=List.length_pos_iff.mpr (cutB_ne c (r.data.toList.drop (i+1)));rw[← hrest,List.length_drop]at h1
      omega
     ·rw [ByteArray.size_extract];have:=hrs.out;omega
    case measure=>
     have e1:∀ (U:World) (q:ByteArray),U.heap[Bs]?=some (.cells #[.string q] 9 (0,0))→strings_SplitSeq.len Bs U=q.size:=by
      intro U q h;unfold strings_SplitSeq.len;rw[show U.cell? ⟨Bs,0,none⟩=some (.string q)from(blk_cell h 0).trans rfl]
     rw[e1 _ _ hBs.out,e1 _ _ (blk_put HBs3.out 0 _ rfl),ByteArray.size_extract]
     omega
   ·have HJ3:=m0 hJx3;clear hJx3
    gi_wp2
    refine bodyPost_ret (results_none rfl _ _ _) rfl ?_;exact⟨⟨_,rfl⟩,.inr ⟨k+1,hk.out,HJ3.out⟩⟩
theorem strings_SplitSeq.calls_own (s p:ByteArray) (w:World):
  Calls Tryz.prog 32 #[.string s,.string p] w fun e w'=>e= .returned (.func (.func 89) #[] #[.pointer (some ⟨w.heap.size+1,0,none⟩),.pointer (some ⟨w.heap.size,0,none⟩),.pointer (some ⟨w.heap.size+1+1,0,none⟩)])∧w'=((w.alloc (.cells #[.string s] 9)).alloc (.cells #[.string p] 9)).alloc (.cells #[.int .i64 0] 3):=by
 go_enter Tryz.func32,Tryz.ntmps32
 go_wp2
 go_ret
 exact⟨rfl,rfl⟩
end
section
theorem strconv_Atoi.calls_own (b:List UInt8) (hb:b.length≤1000000) (w:World) (hG:EstG w):
  Calls Tryz.prog 58 #[.string ⟨b.toArray⟩] w fun e w'=>((∃ v,Lib.atoiAll b= .ok v∧e= .returned (.tuple #[.int .i64 v,.nilIface]))∨(∀ v,Lib.atoiAll b≠ .ok v)∧∃ n t p,e= .returned (.tuple #[.int .i64 n,.iface t p]))∧Below w.heap.size w w':=by
 have hs:(⟨b.toArray⟩:ByteArray).size≤1000000:=by show b.toArray.size≤1000000;simpa using hb
 cases hA:Lib.atoiAll b
 case ok v=>
  refine(Tryz.strconv_Atoi_ok ⟨b.toArray⟩ (by omega) v (by simpa using hA) w).mono ?_;rintro e w' ⟨rfl,hw⟩;refine⟨.inl ⟨v,rfl,rfl⟩,?_⟩
  rcases hw with rfl|⟨t,rfl⟩
  ·exact Below.refl _ _
  ·exact Lib.bytesWorld_below _ _ _
 case range=>
  obtain⟨tp,p,h3⟩:=hG.2.2;refine(Tryz.strconv_Atoi_range_var ⟨b.toArray⟩ (by omega) (by simpa using hA) tp p w h3).mono ?_;rintro e w' ⟨N,rfl,_,_,hb⟩;exact⟨.inr ⟨fun v=>(by intro h;cases h),_,_,_,rfl⟩,hb⟩
 all_goals
  obtain⟨tp,p,h2⟩:=hG.2.1;refine(Tryz.strconv_Atoi_syntax_var ⟨b.toArray⟩ (by omega) (by simp[hA]) tp p w h2).mono ?_;rintro e w' ⟨N,rfl,_,_,hb⟩;exact⟨.inr ⟨fun v=>(by intro h;cases h),_,_,_,rfl⟩,hb⟩
theorem strconv_Atoi.calls_ok (b:List UInt8) (hb:b.length≤1000000) (v:Int) (hA:Lib.atoiAll b= .ok v) (w:World) (hG:EstG w):
  Calls Tryz.prog 58 #[.string ⟨b.toArray⟩] w fun e w'=>e= .returned (.tuple #[.int .i64 v,.nilIface])∧Below w.heap.size w w':=
 (strconv_Atoi.calls_own b hb w hG).mono fun e w' h=>⟨by
  rcases h.1 with ⟨u,hu,he⟩|⟨hn,_⟩
  ·rw [hA]at hu;injection hu with hu;subst hu;exact he
  ·exact absurd hA (hn v),h.2⟩
theorem strconv_Atoi.calls_err (b:List UInt8) (hb:b.length≤1000000) (hA:∀ v,Lib.atoiAll b≠ .ok v) (w:World) (hG:EstG w):
  Calls Tryz.prog 58 #[.string ⟨b.toArray⟩] w fun e w'=>(∃ n t p,e= .returned (.tuple #[.int .i64 n,.iface t p]))∧Below w.heap.size w w':=
 (strconv_Atoi.calls_own b hb w hG).mono fun e w' h=>⟨by
  rcases h.1 with ⟨u,hu,he⟩|⟨hn,he⟩
  ·exact absurd hu (hA u)
  ·exact he,h.2⟩
end
section
def L_parsed.num (b:List UInt8):Option Int:=match Lib.atoiAll b with| .ok v=>if 0≤v∧Lib.itoa v=b∧b.length≤5 then some v else none|_=>none
def L_parsed.pars (fr:List (List UInt8)):Nat→Option (List Int)
  |0=>some []
  |j+1=>(L_parsed.pars fr j).bind fun acc=>((fr[j]?).bind L_parsed.num).map fun v=>acc++ [v]
def L_parsed.f (a0:ByteArray):Option (List Int×Bool):=if a0.size≤1000000 then some (match L_parsed.pars (cutB 32 a0.data.toList) (cutB 32 a0.data.toList).length with|some l=>(l,true)|none=>([],false))else none
theorem L_parsed.pars_len (fr:List (List UInt8)):∀ (j:Nat) (acc:List Int),L_parsed.pars fr j=some acc→acc.length=j
  |0,acc,h=>by simp only[L_parsed.pars,Option.some.injEq]at h;subst h;rfl
  | j+1,acc,h=>by
    simp only[L_parsed.pars]at h;obtain⟨a,ha,h⟩:=Option.bind_eq_some_iff.mp h;obtain⟨v,_,rfl⟩:=Option.map_eq_some_iff.mp h;have:=L_parsed.pars_len fr j a ha
    simp[this]
theorem L_parsed.pars_none (fr:List (List UInt8)) {j:Nat} (h:L_parsed.pars fr j=none):∀ m,L_parsed.pars fr (j+m)=none
  |0=>h
  | m+1=>by
    show L_parsed.pars fr (j+m+1)=none
    simp only[L_parsed.pars];rw[L_parsed.pars_none fr h m];rfl
theorem own_base {W:World} {b b':Nat} {e:TypeId} {size:Nat} {v:Value} {k:Nat} {xs:List Value} (h:W.ownsRow b e size v k xs) (hb:b'≤b):W.ownsRow b' e size v k xs:=by
  refine⟨h.1,?_⟩
  rcases h.2 with h|⟨g,cap,cur,h1,h2,h3⟩
  · exact .inl h
  · exact .inr ⟨g,cap,cur,h1,Nat.le_trans hb h2,h3⟩
def L_parsed.I (w:World) (fr:List (List UInt8)) (j:Nat) (W:World):Prop:=∃ (pre:List Int) (v:Value) (cs:List Value),L_parsed.pars fr j=some pre∧W.heap[w.heap.size+1+1]?=some (.cells #[v] 22 (0,0))∧W.ownsRow (w.heap.size+6) 3 1 v pre.length cs∧(∀ (U:World) (ok:Nat→Prop),Reps (((Kd.int .i64)).M U w.heap.size ok) 1 pre cs)∧W.heap[w.heap.size]?=some (.cells #[.slice none 0 0] 22 (0,0))∧W.heap[w.heap.size+1]?=some (.cells #[.bool false] 4 (0,0))∧w.heap.size+6≤W.heap.size
attribute [local go_sem] Oper.semAt_some
theorem L_parsed.m1 {P:Prop} (h:P:=by
 clear hA hnum hbd
 gi_wp2
 refine⟨trivial,?_⟩;refine(CallsIn.inRound l (callsIn_wide.2 (strconv_Atoi.calls_ok b HBLB.out v1 HA.out W HGW.out))).mono ?_;rintro e w5 ⟨rfl,hb5⟩;have HB5:=m0 hb5;clear hb5
 gi_wp2
 refine⟨trivial,?_⟩;refine(CallsIn.inRound l (callsIn_wide.2 (strconv_Itoa.calls v1 ⟨(Lib.itoa v1).toArray⟩ w5 (EstG.below HGW.out HB5.out) (by unfold strconv_Itoa.f;rw[if_pos HBD.out])))).mono ?_;rintro e w6 ⟨rfl,hb6⟩;have HB6:=m0 ((HB5.out.trans (hb6.mono HB5.out.size)):Below W.heap.size W w6);have q0:=blk_below H5.out HB6.out;have q1:=blk_below H6.out HB6.out;have c0:w6.cell? ⟨w.heap.size,0,none⟩=some (.slice none 0 0):=(blk_cell q0 0).trans rfl;have c1:w6.cell? ⟨w.heap.size+1,0,none⟩=some (.bool false):=(blk_cell q1 0).trans rfl;have f0:=blk_frozen q0 0;have f1:=blk_frozen q1 0;have n01:w.heap.size≠w.heap.size+1:=by omega
 clear hb6 q0 q1
 gi_wp2
 exact HNO.out HNUM.out _ _ HB6.out):P:=h
theorem L_parsed.calls (a0:ByteArray) (r1:List Int) (r2:Bool) (w:World) (hG:EstG w) (h:L_parsed.f a0=some (r1,r2)):
    Calls Tryz.prog 30 #[.string a0] w fun e w'=>∃ v0_:Value,e= .returned (.tuple #[v0_,.bool r2])∧Kd.R (Kd.int .i64) 3 w' w.heap.size (fun _=>True) v0_ r1∧Below w.heap.size w w':=by
  unfold L_parsed.f at h
  by_cases hsz:a0.size≤1000000
  case neg=>rw[if_neg hsz]at h;cases h
  rw[if_pos hsz]at h;have h:=Option.some.inj h;obtain⟨fr,hfr⟩:∃ fr,cutB 32 a0.data.toList=fr:=⟨_,rfl⟩;have hfl:fr.length≤1000001:=by rw[← hfr];have:=cutB_len 32 a0.data.toList;have h2:a0.data.toList.length=a0.size:=Array.length_toList;omega
  have hbl:∀ (j:Nat) b,fr[j]?=some b→b.length≤1000000:=by
    intro j b hj;rw[← hfr]at hj;have h1:=cutB_mem 32 _ b (List.mem_of_getElem? hj);have h2:a0.data.toList.length=a0.size:=Array.length_toList
    omega
  have HBL:=m0 hbl;rw[hfr]at h;have HRES:=m0 h;have HG:=m0 hG;have HFL:=m0 hfl;clear h hG hfl hbl;refine(callsIn_wide (n:=9)).1 ?_;refine callsIn_of_wp_marks Tryz.func30 rfl trivial ?_ rfl;simp only[Tryz.ntmps30,List.size_toArray,List.length_cons,List.length_nil,Nat.reduceAdd,Nat.reduceSub,Array.replicate_succ,Array.replicate_zero,List.push_toArray,List.append_toArray,List.nil_append,List.cons_append]
  gi_wp2_with (first|(refine⟨trivial,?_⟩;gi_at_call 32;refine(callsIn_wide.2 (strings_SplitSeq.calls_own a0 ⟨#[32]⟩ _)).mono ?_;rintro e w' ⟨rfl,rfl⟩))
  obtain⟨W0,hW0⟩:∃ W0,((((((w.alloc (.cells #[.slice none 0 0] 22)).alloc (.cells #[.bool false] 4)).alloc (.cells #[.slice none 0 0] 22)).alloc (.cells #[.string a0] 9)).alloc (.cells #[.string ⟨#[32]⟩] 9)).alloc (.cells #[.int .i64 0] 3))=W0:=⟨_,rfl⟩;have hz:W0.heap.size=w.heap.size+6:=by rw[← hW0];simp
  have hb0:Below w.heap.size w W0:=by rw[← hW0];repeat(first|exact Below.refl _ _|apply below_alloc)
  have k0:W0.heap[w.heap.size]?=some (.cells #[.slice none 0 0] 22 (0,0)):=by
    rw[← hW0];(iterate 5 apply blk_alloc);have:=blk_new w (.cells #[.slice none 0 0] 22 (0,0));simpa using this
  have k1:W0.heap[w.heap.size+1]?=some (.cells #[.bool false] 4 (0,0)):=by
    rw[← hW0];(iterate 4 apply blk_alloc);have:=blk_new (w.alloc (.cells #[.slice none 0 0] 22)) (.cells #[.bool false] 4 (0,0));simpa using this
  have k2:W0.heap[w.heap.size+1+1]?=some (.cells #[.slice none 0 0] 22 (0,0)):=by
    rw[← hW0];(iterate 3 apply blk_alloc);have:=blk_new ((w.alloc (.cells #[.slice none 0 0] 22)).alloc (.cells #[.bool false] 4)) (.cells #[.slice none 0 0] 22 (0,0));simpa using this
  have k3:W0.heap[w.heap.size+1+1+1]?=some (.cells #[.string a0] 9 (0,0)):=by
    rw[← hW0];(iterate 2 apply blk_alloc);have:=blk_new (((w.alloc (.cells #[.slice none 0 0] 22)).alloc (.cells #[.bool false] 4)).alloc (.cells #[.slice none 0 0] 22)) (.cells #[.string a0] 9 (0,0));simpa using this
  have k4:W0.heap[w.heap.size+1+1+1+1]?=some (.cells #[.string ⟨#[32]⟩] 9 (0,0)):=by
    rw[← hW0];(iterate 1 apply blk_alloc);have:=blk_new ((((w.alloc (.cells #[.slice none 0 0] 22)).alloc (.cells #[.bool false] 4)).alloc (.cells #[.slice none 0 0] 22)).alloc (.cells #[.string a0] 9)) (.cells #[.string ⟨#[32]⟩] 9 (0,0));simpa using this
  have k5:W0.heap[w.heap.size+1+1+1+1+1]?=some (.cells #[.int .i64 0] 3 (0,0)):=by
    rw[← hW0];have:=blk_new (((((w.alloc (.cells #[.slice none 0 0] 22)).alloc (.cells #[.bool false] 4)).alloc (.cells #[.slice none 0 0] 22)).alloc (.cells #[.string a0] 9)).alloc (.cells #[.string ⟨#[32]⟩] 9)) (.cells #[.int .i64 0] 3 (0,0));simpa using this
  rw [hW0];clear hW0;have hY:=strings_SplitSeq.yields 8 (by decide) 32 a0 hsz w.heap.size (w.heap.size+1+1+1+1) (w.heap.size+1+1+1) (w.heap.size+1+1+1+1+1) W0 (by omega) (by omega) (by omega) k4 k3 k5;rw[hfr]at hY;have HY:=m0 hY;have HZ:=m0 hz;clear hY hfr;obtain⟨i0,hi,hz0,hz1,hz2⟩:=info_parts info3;refine wpIn_rangeB (n:=9) rfl (by decide) (gf:=89) (lb:= #[.pointer (some ⟨w.heap.size+1+1+1+1,0,none⟩),.pointer (some ⟨w.heap.size+1+1+1,0,none⟩),.pointer (some ⟨w.heap.size+1+1+1+1+1,0,none⟩)]) rfl trivial (enters_of Tryz.func89 (by kernel_rfl) rfl) HY.out
    (fun _ _ _ _ _ _ _ _ h=>h) (fun h k=>h.trans k) (fun W l o o' hl h hc hw=>strings_SplitSeq.Kp_putObj (w:=W0) (by omega) (by omega) (by omega) (by omega) W l o o' hl h hc hw) (Below.refl _ _) (fun _ _=>rfl)
    (fun j W=>L_parsed.I w fr j W∧Below w.heap.size w W)
    (fun cd _ W=>(cd=Code.ret∧L_parsed.pars fr fr.length=none∧W.heap[w.heap.size]?=some (.cells #[.slice none 0 0] 22 (0,0))∧W.heap[w.heap.size+1]?=some (.cells #[.bool false] 4 (0,0)))∧Below w.heap.size w W)
    (fun j W v u ⟨⟨pre,v',cs,h1,h2,h3,h4,h5,h6,h7⟩,hB⟩ hs=>⟨⟨pre,v',cs,h1,(Below.heap_setCell W ⟨w.heap.size+1+1+1,0,none⟩ v _ (show w.heap.size+1+1≠w.heap.size+1+1+1 by omega)).trans h2,row_far_ v h3 hs (by decide),h4,(Below.heap_setCell W ⟨w.heap.size+1+1+1,0,none⟩ v _ (show w.heap.size≠w.heap.size+1+1+1 by omega)).trans h5,(Below.heap_setCell W ⟨w.heap.size+1+1+1,0,none⟩ v _ (show w.heap.size+1≠w.heap.size+1+1+1 by omega)).trans h6,by simpa [World.setCell]using h7⟩,hB.setCell (p:=⟨w.heap.size+1+1+1,0,none⟩) (show w.heap.size≤w.heap.size+1+1+1 by omega) v⟩)
    (fun cd j W v u ⟨⟨h1,h2,h5,h6⟩,hB⟩ hs=>⟨⟨h1,h2,(Below.heap_setCell W ⟨w.heap.size+1+1+1,0,none⟩ v _ (show w.heap.size≠w.heap.size+1+1+1 by omega)).trans h5,(Below.heap_setCell W ⟨w.heap.size+1+1+1,0,none⟩ v _ (show w.heap.size+1≠w.heap.size+1+1+1 by omega)).trans h6⟩,hB.setCell (p:=⟨w.heap.size+1+1+1,0,none⟩) (show w.heap.size≤w.heap.size+1+1+1 by omega) v⟩)
    (OwnFrom.and (fun j A B row hs hg hr=>by
      obtain⟨pre,v,cs,h1,h2,h3,h4,h5,h6,h7⟩:=hs;exact⟨pre,v,cs,h1,blk_own_ h2 hg hr,row_turned_ h3 hg (fun r e=>(hr r e).2),h4,blk_own_ h5 hg hr,blk_own_ h6 hg hr,Nat.le_trans h7 hg.size⟩) (ownFrom_below (Nat.le_refl _) (by omega)))
    (fun cd=>OwnFrom.and (fun j A B row hs hg hr=>by
      obtain⟨h1,h2,h3,h4⟩:=hs;exact⟨h1,h2,blk_own_ h3 hg hr,blk_own_ h4 hg hr⟩) (ownFrom_below (Nat.le_refl _) (by omega)))
    ⟨⟨[],.slice none 0 0,[],rfl,k2,⟨rfl,.inl ⟨rfl,rfl⟩⟩,fun _ _=>Reps.none _ _,k0,k1,by omega⟩,hb0⟩ ?round ?done ?stop
  case stop=>
    rintro D c j W hD hj ⟨⟨rfl,hne,h5,h6⟩,hB⟩ hK;have hK':=hK;have hres:=HRES.out;rw[hne]at hres;obtain⟨rfl,rfl⟩:=Prod.mk.inj hres;clear hres
    gi_wp2
    refine⟨by simp,.inl ⟨_,_,rfl,run_takeDeferred hK,?_⟩⟩;have hgD:=grownBy_putObj' W D (.deferred none);exact⟨_,results_11 rfl _ _ w.heap.size (w.heap.size+1) 22 4 #[.slice none 0 0] #[.bool false] (0,0) (0,0) _ _ rfl ((World.putObj_heap_other (show w.heap.size≠D by omega)).trans h5) Tryz.underlying22 rfl (by kernel_rfl) rfl ((World.putObj_heap_other (show w.heap.size+1≠D by omega)).trans h6) Tryz.underlying4 rfl (by kernel_rfl),_,rfl,Kd.R_nil _ _ _ _ _,hB.trans (belowK_b (w:=w) (Nat.le_refl _) _ D _ _ (by omega) hK rfl rfl)⟩
  case done=>
    rintro D W hD ⟨⟨pre,v,cs,h1,h2,h3,h4,h5,h6,h7⟩,hB⟩ hK;have hres:=HRES.out;rw[h1]at hres;obtain⟨rfl,rfl⟩:=Prod.mk.inj hres;clear hres;obtain⟨Av,cv,ev⟩:=Kd.R_slice (d:=Kd.int .i64) (e:=3) (w:=W) (base:=w.heap.size) (ok:=fun _=>True) (v:=v) (xs:=pre) ⟨fun _ _=>trivial,cs,own_base h3 (by omega),h4 _ _⟩;subst ev;have c2:W.cell? ⟨w.heap.size+1+1,0,none⟩=some (.slice Av pre.length cv):=(blk_cell h2 0).trans rfl;have c0:W.cell? ⟨w.heap.size,0,none⟩=some (.slice none 0 0):=(blk_cell h5 0).trans rfl;have c1:W.cell? ⟨w.heap.size+1,0,none⟩=some (.bool false):=(blk_cell h6 0).trans rfl;have f0:=blk_frozen h5 0;have f1:=blk_frozen h6 0;have n01:w.heap.size≠w.heap.size+1:=by omega
    have H2:=m0 h2;have H3:=m0 h3;have H4:=m0 h4;have H5:=m0 h5;have H6:=m0 h6;have HBB:=m0 hB;clear h2 h3 h4 h5 h6 hB
    gi_wp2
    have n1D:w.heap.size≠D∧w.heap.size+1≠D:=by omega
    have hK2:((W.setCell ⟨w.heap.size,0,none⟩ (.slice Av pre.length cv)).setCell ⟨w.heap.size+1,0,none⟩ (.bool true)).heap[D]?=some (.deferred (some [])):=(Below.heap_setCell _ _ _ _ (Ne.symm n1D.2)).trans ((Below.heap_setCell _ _ _ _ (Ne.symm n1D.1)).trans hK);have q0:((W.setCell ⟨w.heap.size,0,none⟩ (.slice Av pre.length cv)).setCell ⟨w.heap.size+1,0,none⟩ (.bool true)).heap[w.heap.size]?=some (.cells #[.slice Av pre.length cv] 22 (0,0)):=(Below.heap_setCell _ _ _ _ (show w.heap.size≠w.heap.size+1 by omega)).trans (blk_put H5.out 0 _ rfl);have q1:(W.setCell ⟨w.heap.size,0,none⟩ (.slice Av pre.length cv)).heap[w.heap.size+1]?=some (.cells #[.bool false] 4 (0,0)):=(Below.heap_setCell _ _ _ _ (show w.heap.size+1≠w.heap.size by omega)).trans H6.out;have hgD:=grownBy_putObj' ((W.setCell ⟨w.heap.size,0,none⟩ (.slice Av pre.length cv)).setCell ⟨w.heap.size+1,0,none⟩ (.bool true)) D (.deferred none);refine⟨by simp,.inl ⟨_,_,rfl,run_takeDeferred hK2,?_⟩⟩;exact⟨_,results_11 rfl _ _ w.heap.size (w.heap.size+1) 22 4 #[.slice Av pre.length cv] #[.bool true] (0,0) (0,0) _ _ rfl ((World.putObj_heap_other n1D.1).trans q0) Tryz.underlying22 rfl (by kernel_rfl) rfl ((World.putObj_heap_other n1D.2).trans (blk_put q1 0 _ rfl)) Tryz.underlying4 rfl (by kernel_rfl),_,rfl,
      ⟨fun _ _=>trivial,cs,own_base (row_turned_ (row_far_ _ (row_far_ _ H3.out H5.out (by decide)) q1 (by decide)) hgD (fun r e=>by cases e;exact⟨_,hK2,rfl⟩)) (by omega),H4.out _ _⟩,
      ((HBB.out.setCell (p:=⟨w.heap.size,0,none⟩) (Nat.le_refl _) _).setCell (p:=⟨w.heap.size+1,0,none⟩) (Nat.le_succ _) _).trans (belowK_b (w:=w) (Nat.le_refl _) _ D _ _ (by omega) hK2 rfl rfl)⟩
  case round =>
    intro l j x W K hj hK;have HKK:=m0 hK;have HJ:=m0 hj;clear hK hj
    gi_wp2
    refine HKK.out _ ?_;clear HKK;rintro W ⟨⟨pre,v,cs,h1,h2,h3,h4,h5,h6,h7⟩,hB⟩ ⟨b,hb,rfl⟩;obtain⟨Av,cv,ev⟩:=Kd.R_slice (d:=Kd.int .i64) (e:=3) (w:=W) (base:=w.heap.size) (ok:=fun _=>True) (v:=v) (xs:=pre) ⟨fun _ _=>trivial,cs,own_base h3 (by omega),h4 _ _⟩;subst ev;have c2:W.cell? ⟨w.heap.size+1+1,0,none⟩=some (.slice Av pre.length cv):=(blk_cell h2 0).trans rfl;have c0:W.cell? ⟨w.heap.size,0,none⟩=some (.slice none 0 0):=(blk_cell h5 0).trans rfl;have c1:W.cell? ⟨w.heap.size+1,0,none⟩=some (.bool false):=(blk_cell h6 0).trans rfl;have f0:=blk_frozen h5 0;have f1:=blk_frozen h6 0;have hbl:=HBL.out j b hb;have hGW:=EstG.below HG.out hB;have H1:=m0 h1;have H2:=m0 h2;have H3:=m0 h3;have H4:=m0 h4;have H5:=m0 h5;have H6:=m0 h6;have H7:=m0 h7;have HBB:=m0 hB;have HGW:=m0 hGW;have HBLB:=m0 hbl;have HB_:=m0 hb;clear h1 h2 h3 h4 h5 h6 h7 hB hGW hbl hb c2 c0 c1 f0 f1;have hno:L_parsed.num b=none→∀ (W5:World) (a:Act),Below W.heap.size W W5→leftN (strings_SplitSeq.Kp w.heap.size (w.heap.size+1+1+1+1) (w.heap.size+1+1+1) (w.heap.size+1+1+1+1+1)) (fun j W=>L_parsed.I w fr j W∧Below w.heap.size w W)
        (fun cd _ W=>(cd=Code.ret∧L_parsed.pars fr fr.length=none∧W.heap[w.heap.size]?=some (.cells #[.slice none 0 0] 22 (0,0))∧W.heap[w.heap.size+1]?=some (.cells #[.bool false] 4 (0,0)))∧Below w.heap.size w W) (j+1) W .ret a ((W5.setCell ⟨w.heap.size,0,none⟩ (.slice none 0 0)).setCell ⟨w.heap.size+1,0,none⟩ (.bool false)):=by
      intro hnum W5 a hb5;have hp:L_parsed.pars fr (j+1)=none:=by
        simp only[L_parsed.pars,H1.out,HB_.out,Option.bind_some,hnum];rfl
      have hp2:L_parsed.pars fr fr.length=none:=by
        have:=L_parsed.pars_none fr hp (fr.length-(j+1));rw[show j+1+(fr.length-(j+1))=fr.length by have:=HJ.out;omega]at this;exact this
      have q0:(W5.setCell ⟨w.heap.size,0,none⟩ (.slice none 0 0)).heap[w.heap.size]?=some (.cells #[.slice none 0 0] 22 (0,0)):=blk_put (blk_below H5.out hb5) 0 _ rfl;have q1:(W5.setCell ⟨w.heap.size,0,none⟩ (.slice none 0 0)).heap[w.heap.size+1]?=some (.cells #[.bool false] 4 (0,0)):=(Below.heap_setCell _ _ _ _ (show w.heap.size+1≠w.heap.size by omega)).trans (blk_below H6.out hb5);exact⟨(((⟨hb5.size,fun k o h _=>(hb5.block k (blk_lt h)).trans h⟩:KeepsOthers W W5).trans (KeepsOthers.setCell _ _ _)).trans (KeepsOthers.setCell _ _ _)),⟨rfl,hp2,(Below.heap_setCell _ _ _ _ (show w.heap.size≠w.heap.size+1 by omega)).trans q0,blk_put q1 0 _ rfl⟩,
        ((HBB.out.trans (hb5.mono HBB.out.size)).setCell (p:=⟨w.heap.size,0,none⟩) (Nat.le_refl _) _).setCell (p:=⟨w.heap.size+1,0,none⟩) (Nat.le_succ _) _⟩
    have HNO:=m0 hno;have hpan:∀ (G:Exit→Act→World→Prop),G=leftN (strings_SplitSeq.Kp w.heap.size (w.heap.size+1+1+1+1) (w.heap.size+1+1+1) (w.heap.size+1+1+1+1+1)) (fun j W=>L_parsed.I w fr j W∧Below w.heap.size w W)
        (fun cd _ W=>(cd=Code.ret∧L_parsed.pars fr fr.length=none∧W.heap[w.heap.size]?=some (.cells #[.slice none 0 0] 22 (0,0))∧W.heap[w.heap.size+1]?=some (.cells #[.bool false] 4 (0,0)))∧Below w.heap.size w W) (j+1) W→G=G:=fun _ _=>rfl
    clear hno hpan
    by_cases hok:∃ v1,Lib.atoiAll b= .ok v1
    · obtain ⟨v1, hA⟩:=hok;have hbd:=Lib.atoiAll_bounds hA
      by_cases hn:v1<0
      · have hnum:L_parsed.num b=none:=by
          unfold L_parsed.num;rw[hA];simp only;rw[if_neg (by omega)]
        have HA:=m0 hA;have HNUM:=m0 hnum;clear hA hnum hbd
        gi_wp2
        refine⟨trivial,?_⟩;refine(CallsIn.inRound l (callsIn_wide.2 (strconv_Atoi.calls_ok b HBLB.out v1 HA.out W HGW.out))).mono ?_;rintro e w5 ⟨rfl,hb5⟩;have HB5:=m0 hb5;have q0:=blk_below H5.out hb5;have q1:=blk_below H6.out hb5;have c0:w5.cell? ⟨w.heap.size,0,none⟩=some (.slice none 0 0):=(blk_cell q0 0).trans rfl;have c1:w5.cell? ⟨w.heap.size+1,0,none⟩=some (.bool false):=(blk_cell q1 0).trans rfl;have f0:=blk_frozen q0 0;have f1:=blk_frozen q1 0;have n01:w.heap.size≠w.heap.size+1:=by omega
        clear hb5 q0 q1
        gi_wp2
        refine⟨trivial,?_⟩
        gi_wp2
        exact HNO.out HNUM.out _ _ HB5.out
      · have HN := m0 hn;have HA:=m0 hA;have HBD:=m0 hbd
        by_cases hi2:Lib.itoa v1=b
        · by_cases hl:b.length≤5
          · have hnum:L_parsed.num b=some v1:=by
              unfold L_parsed.num;rw[hA];simp only;rw[if_pos ⟨by omega,hi2,hl⟩]
            have hp:L_parsed.pars fr (j+1)=some (pre++ [v1]):=by
              simp only[L_parsed.pars,H1.out,HB_.out,Option.bind_some,hnum];rfl
            have hpl:pre.length≤1000001:=by
              have h1:=L_parsed.pars_len fr j pre H1.out;have h2:=HJ.out;have h3:=HFL.out
              omega
            have HP1:=m0 hp;have HPL:=m0 hpl;have hn0:0≤v1:=by omega
            have hl2:(b.length:Int)≤5:=by omega
            clear hA hnum hbd hp hpl
            gi_wp2
            refine⟨trivial,?_⟩;refine(CallsIn.inRound l (callsIn_wide.2 (strconv_Atoi.calls_ok b HBLB.out v1 HA.out W HGW.out))).mono ?_;rintro e w5 ⟨rfl,hb5⟩;have HB5:=m0 hb5;clear hb5
            gi_wp2
            refine⟨trivial,?_⟩;refine(CallsIn.inRound l (callsIn_wide.2 (strconv_Itoa.calls v1 ⟨(Lib.itoa v1).toArray⟩ w5 (EstG.below HGW.out HB5.out) (by unfold strconv_Itoa.f;rw[if_pos HBD.out])))).mono ?_;rintro e w6 ⟨rfl,hb6⟩;have HB6:=m0 ((HB5.out.trans (hb6.mono HB5.out.size)):Below W.heap.size W w6);have q2:=blk_below H2.out HB6.out;have hown:w6.ownsRow (w.heap.size+6) 3 1 (.slice Av pre.length cv) pre.length cs:=row_turned_ H3.out (grown_of_below HB6.out none) (fun r e=>by cases e);have hcv:w6.cell? ⟨w.heap.size+1+1,0,none⟩=some (.slice Av pre.length cv):=(blk_cell q2 0).trans rfl;have hfv:=blk_frozen q2 0;have hsz6:w.heap.size+6≤w6.heap.size:=Nat.le_trans H7.out HB6.out.size;have Q2:=m0 q2;have HOWN0:=m0 hown;clear hb6 q2
            gi_wp2_with (first
              | (gi_at_builtin;refine wpListIn_append_own _ rfl _ _ 22 rfl (w.heap.size+6) 3 i0 (.int .i64 0) 1 8 Tryz.underlying22 hi hz0 hz1 hz2 rfl (by decide) (.slice Av pre.length cv) pre.length cs rfl (HOWN0.out.alloc _) ⟨w6.heap.size,0,none⟩ 1 1 [.int .i64 v1] rfl rfl (cells_new_ w6 _ 3) (by simp[Value.oneCell']) (by have:=HPL.out;unfold maxLen;omega) (by have:=HPL.out;omega) (by simp;omega) ?_;intro v' w3 hown' hg3 hnil3
                 have hv3:w3.heap[w.heap.size+1+1]?=some (.cells #[.slice Av pre.length cv] 22 (0,0)):=(hg3.block _ (by simp;have:=blk_lt Q2.out;omega) (row_ne_ HOWN0.out Q2.out (by decide))).trans (blk_alloc Q2.out _);have hcv3:w3.cell? ⟨w.heap.size+1+1,0,none⟩=some (.slice Av pre.length cv):=(blk_cell hv3 0).trans rfl;have hfv3:=blk_frozen hv3 0;obtain⟨g',cap',cur',rfl,hbase',hgb',hr1,hr2,hr3,hr4⟩:∃ g' cap' cur',v'= .slice (some ⟨g',0,none⟩) (pre.length+1) cap'∧w.heap.size+6≤g'∧w3.heap[g']?=some (.cells cur' 3 (0,0))∧pre.length+1≤cap'∧cap'≤maxLen∧cur'.size=cap'*1∧cur'.toList.take ((pre.length+1)*1)=cs++ [.int .i64 v1]:=by
                   rcases hown'.2 with ⟨_,h0⟩|h'
                   · exact absurd h0 (by omega)
                   · exact h'
                 have HV3:=m0 hv3;have HOWN:=m0 hown';have HG3:=m0 hg3;clear hv3 hown' hg3 hnil3 hbase' hgb' hr1 hr2 hr3 hr4))
            have hgA:w6.grownBy (w6.alloc (.cells ([.int .i64 v1]:List Value).toArray 3)) none:=World.grownBy_alloc w6 _ none;have hbA:Below (w.heap.size+6) w6 (w6.alloc (.cells ([.int .i64 v1]:List Value).toArray 3)):=(Below.refl _ _).alloc hsz6 _;have hb3:Below (w.heap.size+6) w6 w3:=hbA.grown HG3.out (by simp;omega) (fun k e=>row_base_ HOWN0.out k e);have hb3':Below (w.heap.size+6) W w3:=(HB6.out.mono H7.out).trans hb3;have hb4:Below w.heap.size W (w3.setCell ⟨w.heap.size+1+1,0,none⟩ (.slice (some ⟨g',0,none⟩) (pre.length+1) cap')):=(hb3'.mono (Nat.le_add_right _ _)).setCell (p:=⟨w.heap.size+1+1,0,none⟩) (show w.heap.size≤w.heap.size+1+1 by omega) _;have box:∀ k,k<w.heap.size+6→k≠w.heap.size+1+1→(w3.setCell ⟨w.heap.size+1+1,0,none⟩ (.slice (some ⟨g',0,none⟩) (pre.length+1) cap')).heap[k]?=W.heap[k]? :=fun k hk hne=>(Below.heap_setCell w3 ⟨w.heap.size+1+1,0,none⟩ _ k hne).trans (hb3'.block k hk);refine⟨(((⟨HB6.out.size,fun k o h _=>(HB6.out.block k (blk_lt h)).trans h⟩:KeepsOthers W w6).trans (KeepsOthers.alloc w6 (.cells ([.int .i64 v1]:List Value).toArray 3))).trans (KeepsOthers.of_grownBy HG3.out (row_cells_ (HOWN0.out.alloc _)))).trans (KeepsOthers.setCell _ _ _),
              ⟨hb4,box _ (by omega) (by omega),box _ (by omega) (by omega),box _ (by omega) (by omega)⟩,
              ⟨pre++ [v1],.slice (some ⟨g',0,none⟩) (pre.length+1) cap',cs++ [.int .i64 v1],HP1.out,blk_put HV3.out 0 _ rfl,?_,?_,(box _ (by omega) (by omega)).trans H5.out,(box _ (by omega) (by omega)).trans H6.out,?_⟩,HBB.out.trans hb4⟩
            · have:=row_far_ (.slice (some ⟨g',0,none⟩) (pre.length+1) cap') HOWN.out HV3.out (by decide)
              simpa using this
            · intro U ok;exact Reps.snoc (H4.out U ok) (rfl) rfl
            · have:=hb4.size;have:=H7.out;omega
          · have hnum:L_parsed.num b=none:=by
              unfold L_parsed.num;rw[hA];simp only;rw[if_neg (fun h=>hl h.2.2)]
            have HNUM:=m0 hnum;have hn0:0≤v1:=by omega
            have hl2:¬ ((b.length:Int)≤5):=by omega
            exact L_parsed.m1
        · have hnum:L_parsed.num b=none:=by
            unfold L_parsed.num;rw[hA];simp only;rw[if_neg (fun h=>hi2 h.2.1)]
          have HNUM:=m0 hnum;have hn0:0≤v1:=by omega
          exact L_parsed.m1
    · have hA:∀ v1,Lib.atoiAll b≠ .ok v1:=fun v1 h=>hok ⟨v1,h⟩;have hnum:L_parsed.num b=none:=by
        unfold L_parsed.num
        cases e:Lib.atoiAll b
        case ok v1=>exact absurd e (hA v1)
        all_goals rfl
      have HA:=m0 hA;have HNUM:=m0 hnum;clear hok hA hnum
      gi_wp2
      refine⟨trivial,?_⟩;refine(CallsIn.inRound l (callsIn_wide.2 (strconv_Atoi.calls_err b HBLB.out HA.out W HGW.out))).mono ?_;rintro e w5 ⟨⟨n1,t1,p1,rfl⟩,hb5⟩;have HB5:=m0 hb5;have q0:=blk_below H5.out hb5;have q1:=blk_below H6.out hb5;have c0:w5.cell? ⟨w.heap.size,0,none⟩=some (.slice none 0 0):=(blk_cell q0 0).trans rfl;have c1:w5.cell? ⟨w.heap.size+1,0,none⟩=some (.bool false):=(blk_cell q1 0).trans rfl;have f0:=blk_frozen q0 0;have f1:=blk_frozen q1 0;have n01:w.heap.size≠w.heap.size+1:=by omega
      clear hb5 q0 q1
      gi_wp2
      refine⟨trivial,?_⟩
      gi_wp2
      exact HNO.out HNUM.out _ _ HB5.out
end
section
def L_ParseProfile.f (k:Nat) (a0:ByteArray):Option (List Int×Int):=if(a0.size:Int)>60000 then(some (([]:List Int),8))else((L_parsed.f a0).bind fun bt415=>(if bt415.2=true then((L_CheckProfile.f k bt415.1).bind fun bt419=>(if bt419.2=0 then(some (bt415.1,0))else(some (([]:List Int),bt419.2))))else(some (([]:List Int),7))))
theorem L_ParseProfile.mono:∀ a0 k,LeO (L_ParseProfile.f k a0) (L_ParseProfile.f (k+1) a0):=by
 intro a0 k;unfold L_ParseProfile.f
 have m1:=@L_CheckProfile.mono;exact lz
theorem L_ParseProfile.calls (k:Nat) (a0:ByteArray) (r1:List Int) (r2:Int) (w:World) (hG:EstG w) (H:L_ParseProfile.f k a0=some (r1,r2)):
  Calls Tryz.prog 10 #[.string a0] w fun e w'=>∃ v0_:Value,e= .returned (.tuple #[v0_,.int .i64 r2])∧Kd.R (Kd.int .i64) 3 w' w.heap.size (fun _=>True) v0_ r1∧Below w.heap.size w w':=by
 have HG:=m0 hG;clear hG;have HB:=m0 (Below.refl w.heap.size w);unfold L_ParseProfile.f at H
 by_cases c2:(a0.size:Int)>60000
 ·rw [if_pos c2]at H;have c2b0:=decide_eq_true c2;have c2b1:decide (60000<a0.size)=true:=decide_eq_true (by omega);clear c2;simp only[Option.some.injEq,Prod.mk.injEq]at H;obtain⟨rfl,rfl⟩:=H;go_enter Tryz.func10,Tryz.ntmps10
  go_wp2
  go_ret2
  exact⟨_,e4,by first|exact Kd.R_nil _ _ _ _ _|exact Kd.N_nil _ _ _ _ _|exact Kd.V_nil _ _ _ _ _|exact Kd.Q_nil _ _ _ _ _|exact Kd.S_nil _ _ _ _ _,bz⟩
 ·rw [if_neg c2]at H;have c2b0:=decide_eq_false c2;have c2b1:decide (60000<a0.size)=false:=decide_eq_false (by omega);clear c2;replace H:=oa H;obtain⟨⟨t415,t416⟩,A3,H⟩:=H;(try dsimp only at H)
  by_cases c4:t416=true
  ·subst c4;rw[if_pos rfl]at H;replace H:=oa H;obtain⟨⟨t419,t420⟩,A5,H⟩:=H;(try dsimp only at H)
   by_cases c6:t420=0
   ·rw [if_pos c6]at H;have c6b0:=beq_iff_eq.mpr c6;have c6b1:=bne_eq_false_iff_eq.mpr c6;clear c6;simp only[Option.some.injEq,Prod.mk.injEq]at H;obtain⟨rfl,rfl⟩:=H;go_enter Tryz.func10,Tryz.ntmps10
    go_wp2_with (first|((with_reducible refine gc 30 rfl ?_);refine gl (some 13) Tryz.func30 #[.string a0] ?_;(with_reducible refine(L_parsed.calls a0 t415 true _ ?side1 A3.out).mono ?_);(case side1=>exact EstG.below HG.out bz);rintro e w7 ⟨v417,rfl,ho0,hb⟩;refine⟨_,rfl,?_⟩;have HO418:=m0 (Kd.R_lower ho0 (below_size bz));replace HB:=sb HB hb;(try clear hb);(try clear ho0);obtain⟨Ao8,co8,eo8⟩:=Kd.R_slice HO418.out;subst eo8)|((with_reducible refine gc 31 rfl ?_);refine gl (some 20) Tryz.func31 #[.slice Ao8 t415.length co8] ?_;(with_reducible refine(L_CheckProfile.calls k _ _ t415 t419 t420 _ ?side1 ?side2 A5.out).mono ?_);(case side1=>exact bc (Kd.R_reads' HO418.out).2.2);(case side2=>exact(Kd.R_reads' HO418.out).2.1);rintro e w9 ⟨rfl,hb⟩;refine⟨_,rfl,?_⟩;replace HO418:=rb HO418 hb;replace HB:=sb HB hb;(try clear hb)))
    go_ret2
    exact⟨_,e4,by(with_reducible repeat(first|apply Kd.R_alloc|apply Kd.R_drewN|apply Kd.R_drew));exact HO418.out,bz⟩
   ·rw [if_neg c6]at H;have c6b0:=beq_eq_false_iff_ne.mpr c6;have c6b1:=bne_iff_ne.mpr c6;simp only[Option.some.injEq,Prod.mk.injEq]at H;obtain⟨rfl,rfl⟩:=H;go_enter Tryz.func10,Tryz.ntmps10
    go_wp2_with (first|((with_reducible refine gc 30 rfl ?_);refine gl (some 13) Tryz.func30 #[.string a0] ?_;(with_reducible refine(L_parsed.calls a0 t415 true _ ?side1 A3.out).mono ?_);(case side1=>exact EstG.below HG.out bz);rintro e w10 ⟨v417,rfl,ho0,hb⟩;refine⟨_,rfl,?_⟩;have HO418:=m0 (Kd.R_lower ho0 (below_size bz));replace HB:=sb HB hb;(try clear hb);(try clear ho0);obtain⟨Ao11,co11,eo11⟩:=Kd.R_slice HO418.out;subst eo11)|((with_reducible refine gc 31 rfl ?_);refine gl (some 20) Tryz.func31 #[.slice Ao11 t415.length co11] ?_;(with_reducible refine(L_CheckProfile.calls k _ _ t415 t419 t420 _ ?side1 ?side2 A5.out).mono ?_);(case side1=>exact bc (Kd.R_reads' HO418.out).2.2);(case side2=>exact(Kd.R_reads' HO418.out).2.1);rintro e w12 ⟨rfl,hb⟩;refine⟨_,rfl,?_⟩;replace HO418:=rb HO418 hb;replace HB:=sb HB hb;(try clear hb)))
    go_ret2
    exact⟨_,e4,by first|exact Kd.R_nil _ _ _ _ _|exact Kd.N_nil _ _ _ _ _|exact Kd.V_nil _ _ _ _ _|exact Kd.Q_nil _ _ _ _ _|exact Kd.S_nil _ _ _ _ _,bz⟩
  ·replace c4:=Bool.eq_false_iff.mpr c4;subst c4;rw[if_neg (show ¬ (false=true) by decide)]at H;simp only[Option.some.injEq,Prod.mk.injEq]at H;obtain⟨rfl,rfl⟩:=H;go_enter Tryz.func10,Tryz.ntmps10
   go_wp2_with (first|((with_reducible refine gc 30 rfl ?_);refine gl (some 13) Tryz.func30 #[.string a0] ?_;(with_reducible refine(L_parsed.calls a0 t415 false _ ?side1 A3.out).mono ?_);(case side1=>exact EstG.below HG.out bz);rintro e w13 ⟨v417,rfl,ho0,hb⟩;refine⟨_,rfl,?_⟩;have HO418:=m0 (Kd.R_lower ho0 (below_size bz));replace HB:=sb HB hb;(try clear hb);(try clear ho0)))
   go_ret2
   exact⟨_,e4,by first|exact Kd.R_nil _ _ _ _ _|exact Kd.N_nil _ _ _ _ _|exact Kd.V_nil _ _ _ _ _|exact Kd.Q_nil _ _ _ _ _|exact Kd.S_nil _ _ _ _ _,bz⟩
end
end Go.Proofs.YteiafijbgjgiaaaGreatDoor.A
