/- Walks of the program's functions (printed, made shorter), each with what it computes. -/
import Derived.Test.YteiafijbgjgiaaaGreatDoorS07
import Derived.Test.YteiafijbgjgiaaaGreatDoorS16
import Derived.Lib.AppendIntMem
namespace Go.Proofs.YteiafijbgjgiaaaGreatDoor.A
set_option maxHeartbeats 8000000
set_option maxRecDepth 100000
open Go.RowKit Go.Proofs.YteiafijbgjgiaaaGreatDoorW.PrintWords Go.Proofs.YteiafijbgjgiaaaGreatDoorW.PrintLast Go.Proofs.YteiafijbgjgiaaaGreatDoorW.PrintMore
attribute [local go_sem] max2_int min2_int max_two min_two max_three min_three max_four min_four
set_option linter.unusedVariables false
set_option linter.unusedSimpArgs false
section
def strings_Join.f (l0:List ByteArray) (a1:ByteArray):Option ByteArray:=if l0.length≤140737488355328∧(Lib.join (l0.map (·.data.toList)) a1.data.toList).length≤140737488355328 then some ⟨(Lib.join (l0.map (·.data.toList)) a1.data.toList).toArray⟩else none
theorem strings_Join.calls (A0:Option Addr) (c0:Nat) (l0:List ByteArray) (a1:ByteArray) (r:ByteArray) (w:World) (hr0:Kd.C Kd.string w A0 l0.length l0) (hc0:l0.length≤c0) (h:strings_Join.f l0 a1=some r):
  Calls Tryz.prog 29 #[.slice A0 l0.length c0,.string a1] w fun e w'=>e= .returned (.string r)∧Below w.heap.size w w':=by
 unfold strings_Join.f at h
 split at h
 ·rename_i hb
  obtain rfl:=Option.some.inj h
  by_cases h0:l0.length=0
  ·obtain rfl:=List.length_eq_zero_iff.mp h0;refine(Tryz.strings_Join_none A0 c0 a1 w).mono ?_;rintro e w' ⟨rfl,rfl⟩;exact⟨rfl,Below.refl _ _⟩
  ·obtain ⟨ad,rfl,hc⟩:=hr0.2.2 (by omega);have hcell:∀ (j:Nat) x,l0[j]?=some x→w.cell? (ad.add j)=some (.string x):=by
    intro j x hx;obtain⟨cs,_,hk,hcs⟩:=hc j x hx;have e0:cs=[.string x]:=hk;subst e0;have:=hcs 0 (.string x) rfl;rw[show j*Kd.string.sz+0=j from Nat.mul_one j]at this;exact this
   have h00:=hcell 0 l0[0] (List.getElem?_eq_getElem (by omega));have hsp:ad.spot=none:=by
    have h1:w.cell? ad=some (.string l0[0]):=by simpa [Addr.add]using h00
    unfold World.cell? at h1
    split at h1
    ·split at h1
     ·cases h1
     ·rename_i hs;simpa using hs
    ·cases h1
   obtain⟨bk,o,sp⟩:=ad;obtain rfl:sp=none:=hsp;refine(Tryz.strings_Join bk o c0 l0 a1 w (fun j x hx=>by have:=hcell j x hx;rw[show (⟨bk,o,none⟩:Addr).add j=⟨bk,o+j,none⟩ by unfold Addr.add;split<;>simp_all]at this;exact this) (World.block_lt_of_cell? w _ h00) hb.1 hc0 hb.2).mono ?_;rintro e w' ⟨rfl,hbl⟩;exact⟨rfl,hbl⟩
 ·cases h
end
section
def strconv_Itoa.f (a0:Int):Option ByteArray:=if -9223372036854775808≤a0∧a0≤9223372036854775807 then some ⟨(Lib.itoa a0).toArray⟩else none
theorem strconv_Itoa.calls (a0:Int) (r:ByteArray) (w:World) (hG:EstG w) (h:strconv_Itoa.f a0=some r):
  Calls Tryz.prog 54 #[.int .i64 a0] w fun e w'=>e= .returned (.string r)∧Below w.heap.size w w':=by
 unfold strconv_Itoa.f at h
 split at h
 ·rename_i hb
  obtain rfl:=Option.some.inj h;refine(Tryz.strconv_Itoa a0 hb.1 hb.2 w hG.1).mono ?_;rintro e w' ⟨rfl,k,os,rfl⟩;exact⟨rfl,Lib.below_grow _ w (Nat.le_refl _) k os⟩
 ·cases h
end
section
def L_joined.l0:Nat→List ByteArray→List Int→Int→Int→Option (ByteArray)
 |0,_,_,_,_=>none
 |k+1,x3,x6,x7,x8=>if x8<x7 then(if 0≤x8 then(if x8<(x6.length:Int)then((strconv_Itoa.f (rd x6 x8)).bind fun t387=>(if x3.length<8796093022208 then(L_joined.l0 k (x3++ [t387]) x6 x7 (wrap64 (x8+1)))else(none)))else(none))else(none))else((strings_Join.f x3 (⟨#[32]⟩:ByteArray)).bind fun t391=>(some t391))
def L_joined.f (k:Nat) (l0:List Int):Option (ByteArray):=L_joined.l0 k ([]:List ByteArray) l0 (l0.length:Int) 0
theorem L_joined.mono_l:∀ k,(∀ y0 y1 y2 y3,LeO (L_joined.l0 k y0 y1 y2 y3) (L_joined.l0 (k+1) y0 y1 y2 y3))
 |0=>fun _ _ _ _ r h=>by simp[L_joined.l0]at h
 | k+1=>by
  have ih0:=L_joined.mono_l k
  ·intro y0 y1 y2 y3;unfold L_joined.l0
   exact lz
theorem L_joined.mono:∀ a0 k,LeO (L_joined.f k a0) (L_joined.f (k+1) a0):=by
 intro a0 k;have ih0:=L_joined.mono_l k;unfold L_joined.f
 exact lz
theorem L_joined.calls (k:Nat) (A0:Option Addr) (c0:Nat) (l0:List Int) (r:ByteArray) (w:World) (hr0:Kd.C (Kd.int .i64) w A0 l0.length l0) (hc0:l0.length≤c0) (hG:EstG w) (H:L_joined.f k l0=some r):
  Calls Tryz.prog 28 #[.slice A0 l0.length c0] w fun e w'=>e= .returned (.string r)∧Below w.heap.size w w':=by
 have HG:=m0 hG;clear hG;have HR0:=m0 hr0;have HC0:=m0 hc0;clear hr0 hc0;have HB:=m0 (Below.refl w.heap.size w);unfold L_joined.f at H;have H':=m0 H;clear H;go_enter Tryz.func28,Tryz.ntmps28
 go_wp2
 go_loopg [3,8] k (fun kq v3 v8 w'=>∃ (x3_1:List ByteArray) (x8_1:Int),v8= .int .i64 x8_1∧Aside0 (L_joined.l0 kq x3_1 l0 (l0.length:Int) x8_1=some r)∧Aside0 (kq≤k)∧Aside0 (Kd.R Kd.string 9 w' w.heap.size (fun _=>True) v3 x3_1)∧Aside0 (Below w.heap.size w w'))
 case atStart=>exact⟨(([]:List ByteArray)),(0),rz,H',⟨Nat.le_refl _⟩,⟨by first|exact Kd.R_nil _ _ _ _ _|exact Kd.N_nil _ _ _ _ _|exact Kd.V_nil _ _ _ _ _|exact Kd.Q_nil _ _ _ _ _|exact Kd.S_nil _ _ _ _ _⟩,⟨bz⟩⟩
 case round=>
  clear H';obtain⟨x3_1,x8_1,rfl,HA,HK1,HO_3,HB⟩:=hrel
  cases gk with
  |zero=>exact absurd HA.out (by simp[L_joined.l0])
  | succ k1=>
   have H:=HA.out;clear HA;simp only[L_joined.l0]at H
   by_cases c2:x8_1<(l0.length:Int)
   ·rw [if_pos c2]at H;have c2b0:=decide_eq_true c2;clear c2
    by_cases c3:0≤x8_1
    ·rw [if_pos c3]at H;have c3b0:=decide_eq_true c3;clear c3
     by_cases c4:x8_1<(l0.length:Int)
     ·rw [if_pos c4]at H;have c4b0:=decide_eq_true c4;clear c4;replace H:=oa H;obtain⟨t387,A5,H⟩:=H;(try dsimp only at H)
      by_cases c6:x3_1.length<8796093022208
      ·rw [if_pos c6]at H;have LMc6:=m0 c6;clear c6;obtain⟨y388,hy388⟩:∃ y_:List ByteArray,y_=(x3_1++ [t387]):=⟨_,rfl⟩;replace H:(L_joined.l0 k1 y388 l0 (l0.length:Int) (wrap64 (x8_1+1)))=some r:=hq hy388 H
       have Ny388:=m0 hy388;clear hy388;have H':=m0 H;clear H;have p386:0≤(x8_1:Int):=od;have q386:x8_1<(l0.length:Int):=od;obtain⟨ad386,e386,hx386_0⟩:=Kd.at_int HR0.out x8_1 p386 q386
       cases e386
       replace hx386_0:=hc HB hx386_0;replace p386:=eq_true p386;replace q386:=eq_true q386
       go_wp2_with (first|((with_reducible refine gc 54 rfl ?_);refine gl (some 14) Tryz.func54 #[.int .i64 (rd l0 x8_1)] ?_;(with_reducible refine(strconv_Itoa.calls (rd l0 x8_1) t387 _ ?side1 A5.out).mono ?_);(case side1=>exact EstG.below HG.out bz);rintro e w7 ⟨rfl,hb⟩;refine⟨_,rfl,?_⟩;replace HO_3:=rb HO_3 hb;replace HB:=sb HB hb;(try clear hb))|((with_reducible refine gate_builtin (b:= .append) (xs:= #[.tmp 12,.tmp 15]) rfl ?_);at_builtin;refine Kd.R_append Kd.string (w0:=w) w.heap.size rfl (.tmp 12) (.tmp 15) 62 9 (.string ⟨#[]⟩) 16 rfl Tryz.underlying62 info9 rfl (by decide) (by omega) u3 x3_1 t387 [.string t387] (fun _=>True) (fun _=>False) rfl rfl ?aP (fun _ hk=>hk.elim) ?aF ?aO ?aB ?aS ?aL ?_;(case aP=>exact rfl);(case aB=>exact bz);(case aF=>exact(fun _ _=>trivial));(case aO=>exact(br HO_3.out));(case aS=>exact(below_size bz));(case aL=>have:=LMc6.out;omega);intro v389 w8 ho hb hg hat;rw[← Ny388.out]at ho;have n0_:=m0 (hb);have n1_:=m0 (ho);clear HB HO_3;have HB:=n0_;have HO390:=n1_;clear n0_ n1_;clear ho hb hg hat))
       go_roundg k1
       case measure=>have:=HK1.out;omega
       case rel=>exact⟨(y388),(wrap64 (x8_1+1)),rz,H',⟨by have:=HK1.out;omega⟩,⟨br HO390.out⟩,⟨bz⟩⟩
      ·rw [if_neg c6]at H;exact absurd H (by simp)
     ·rw [if_neg c4]at H;exact absurd H (by simp)
    ·rw [if_neg c3]at H;exact absurd H (by simp)
   ·rw [if_neg c2]at H;have c2b0:=decide_eq_false c2;clear c2;replace H:=oa H;obtain⟨t391,A9,H⟩:=H;(try dsimp only at H);obtain rfl:=Option.some.inj H;obtain⟨Ao10,co10,eo10⟩:=Kd.R_slice HO_3.out;subst eo10
    go_wp2_with (first|((with_reducible refine gc 29 rfl ?_);refine gl (some 19) Tryz.func29 #[.slice Ao10 x3_1.length co10,.string (⟨#[32]⟩:ByteArray)] ?_;(with_reducible refine(strings_Join.calls _ _ x3_1 (⟨#[32]⟩:ByteArray) t391 _ ?side1 ?side2 A9.out).mono ?_);(case side1=>exact bc (Kd.R_reads' HO_3.out).2.2);(case side2=>exact(Kd.R_reads' HO_3.out).2.1);rintro e w11 ⟨rfl,hb⟩;refine⟨_,rfl,?_⟩;replace HO_3:=rb HO_3 hb;replace HB:=sb HB hb;(try clear hb)))
    go_ret
    exact ez
end
section
def L_FormatProfile.f (k:Nat) (l0:List Int):Option (ByteArray):=(L_joined.f k l0).bind fun t392=>(some t392)
theorem L_FormatProfile.mono:∀ a0 k,LeO (L_FormatProfile.f k a0) (L_FormatProfile.f (k+1) a0):=by
 intro a0 k;unfold L_FormatProfile.f
 have m1:=@L_joined.mono;exact lz
theorem L_FormatProfile.calls (k:Nat) (A0:Option Addr) (c0:Nat) (l0:List Int) (r:ByteArray) (w:World) (hr0:Kd.C (Kd.int .i64) w A0 l0.length l0) (hc0:l0.length≤c0) (hG:EstG w) (H:L_FormatProfile.f k l0=some r):
  Calls Tryz.prog 6 #[.slice A0 l0.length c0] w fun e w'=>e= .returned (.string r)∧Below w.heap.size w w':=by
 have HG:=m0 hG;clear hG;have HR0:=m0 hr0;have HC0:=m0 hc0;clear hr0 hc0;have HB:=m0 (Below.refl w.heap.size w);unfold L_FormatProfile.f at H;replace H:=oa H;obtain⟨t392,A2,H⟩:=H;(try dsimp only at H);obtain rfl:=Option.some.inj H;go_enter Tryz.func6,Tryz.ntmps6
 go_wp2_with (first|((with_reducible refine gc 28 rfl ?_);refine gl (some 4) Tryz.func28 #[.slice A0 l0.length c0] ?_;(with_reducible refine(L_joined.calls k _ _ l0 t392 _ ?side1 ?side2 ?side3 A2.out).mono ?_);(case side1=>exact cd HR0.out);(case side2=>exact HC0.out);(case side3=>exact EstG.below HG.out bz);rintro e w3 ⟨rfl,hb⟩;refine⟨_,rfl,?_⟩;replace HB:=sb HB hb;(try clear hb)))
 go_ret
 exact ez
end
section
def Bs_CopyInts.f (l0:List Int):Option (List Int):=(some (([]:List Int):List Int)).bind fun y393=>(if y393.length+l0.length<17592186044416 then(some (y393++l0))else(none))
theorem Bs_CopyInts.calls (A0:Option Addr) (c0:Nat) (l0:List Int) (r:List Int) (w:World) (hr0:Kd.C (Kd.int .i64) w A0 l0.length l0) (hc0:l0.length≤c0) (H:Bs_CopyInts.f l0=some r):
  Calls Tryz.prog 7 #[.slice A0 l0.length c0] w fun e w'=>∃ v0_:Value,e= .returned (v0_)∧Kd.R (Kd.int .i64) 3 w' w.heap.size (fun _=>True) v0_ r∧Below w.heap.size w w':=by
 have HR0:=m0 hr0;have HC0:=m0 hc0;clear hr0 hc0;have HB:=m0 (Below.refl w.heap.size w);unfold Bs_CopyInts.f at H;obtain⟨y393,hy393⟩:∃ y_:List Int,y_=(([]:List Int)):=⟨_,rfl⟩;replace H:(if y393.length+l0.length<17592186044416 then(some (y393++l0))else(none))=some r:=hq hy393 H
 have Ny393:=m0 hy393;clear hy393
 by_cases c2:y393.length+l0.length<17592186044416
 ·rw [if_pos c2]at H;have LMc2:=m0 c2;clear c2;obtain⟨y396,hy396⟩:∃ y_:List Int,y_=(y393++l0):=⟨_,rfl⟩;replace H:(some y396)=some r:=hq hy396 H
  have Ny396:=m0 hy396;clear hy396;obtain rfl:=Option.some.inj H;go_enter Tryz.func7,Tryz.ntmps7
  go_wp2_with (first|((with_reducible refine ga 3 rfl ?_);refine Kd.R_lit (Kd.int .i64) _ 3 ?hg (N:=3) ?hd (xs:=([]:List Int)) (inner:=[]) (ok:=fun _=>True) (okp:=fun _=>True) ?hr ?hp (fun _ hk=>hk) trivial (Below.refl _ _) (Nat.le_refl _) (by simp) ?_;(case hd=>rfl);(case hg=>rfl);(case hr=>first|(go_simp;done)|(go_simp;rfl));(case hp=>exact(Reps.none _ _));intro v394 w3 ho4 hb hg_ hnew_;clear hg_ hnew_;(first|rw[← Ny393.out]at ho4|(simp only[Int.reduceToNat]at ho4;rw[← Ny393.out]at ho4));have HO395:=m0 (Kd.R_lower ho4 (below_size bz));replace HB:=sb HB hb;clear hb ho4)|((with_reducible refine gate_builtin (b:= .append) (xs:= #[.tmp 3,.tmp 4]) rfl ?_);at_builtin;refine Kd.R_append_rows (Kd.int .i64) (w0:=w) w.heap.size rfl (.tmp 3) (.tmp 4) 22 3 (.int .i64 0) 8 rfl Tryz.underlying22 info3 rfl (by decide) (by omega) v394 y393 l0 _ _ _ (fun _=>True) (fun _=>False) rfl rfl ?aO ?aR (fun _ _ h=>h) (fun _ h=>h.elim) ?aF ?aB ?aS ?aL ?_;(case aR=>exact cb HR0 HB);(case aB=>exact bz);(case aF=>exact(fun _ _=>trivial));(case aO=>exact(br HO395.out));(case aS=>exact(below_size bz));(case aL=>have:=LMc2.out;omega);intro v397 w5 ho hb hg hat;rw[← Ny396.out]at ho;have n0_:=m0 (hb);have n1_:=m0 (ho);clear HB HO395;have HB:=n0_;have HO398:=n1_;clear n0_ n1_;clear ho hb hg hat))
  go_ret
  exact⟨_,e4,by(with_reducible repeat(first|apply Kd.R_alloc|apply Kd.R_drewN|apply Kd.R_drew));exact HO398.out,bz⟩
 ·rw [if_neg c2]at H;exact absurd H (by simp)
end
section
def L_FormatLayers.l0:Nat→List ByteArray→List (S64)→Int→Int→Option (ByteArray)
 |0,_,_,_,_=>none
 |k+1,x3,x6,x7,x8=>if x8<x7 then(if 0≤x8 then(if x8<(x6.length:Int)then((L_joined.f k (([(rd_T64 x6 x8).f0,(rd_T64 x6 x8).f1,(rd_T64 x6 x8).f2]:List Int))).bind fun t404=>(if x3.length<8796093022208 then(L_FormatLayers.l0 k (x3++ [t404]) x6 x7 (wrap64 (x8+1)))else(none)))else(none))else(none))else((strings_Join.f x3 (⟨#[59]⟩:ByteArray)).bind fun t408=>(some t408))
def L_FormatLayers.f (k:Nat) (l0:List (S64)):Option (ByteArray):=L_FormatLayers.l0 k ([]:List ByteArray) l0 (l0.length:Int) 0
theorem L_FormatLayers.mono_l:∀ k,(∀ y0 y1 y2 y3,LeO (L_FormatLayers.l0 k y0 y1 y2 y3) (L_FormatLayers.l0 (k+1) y0 y1 y2 y3))
 |0=>fun _ _ _ _ r h=>by simp[L_FormatLayers.l0]at h
 | k+1=>by
  have ih0:=L_FormatLayers.mono_l k
  ·intro y0 y1 y2 y3;unfold L_FormatLayers.l0
   have m1:=@L_joined.mono;exact lz
theorem L_FormatLayers.mono:∀ a0 k,LeO (L_FormatLayers.f k a0) (L_FormatLayers.f (k+1) a0):=by
 intro a0 k;have ih0:=L_FormatLayers.mono_l k;unfold L_FormatLayers.f
 have m1:=@L_joined.mono;exact lz
theorem L_FormatLayers.calls (k:Nat) (A0:Option Addr) (c0:Nat) (l0:List (S64)) (r:ByteArray) (w:World) (hr0:Kd.C k64 w A0 l0.length l0) (hc0:l0.length≤c0) (hG:EstG w) (H:L_FormatLayers.f k l0=some r):
  Calls Tryz.prog 8 #[.slice A0 l0.length c0] w fun e w'=>e= .returned (.string r)∧Below w.heap.size w w':=by
 have hu64:=Tryz.underlying64;have HG:=m0 hG;clear hG;have HR0:=m0 hr0;have HC0:=m0 hc0;clear hr0 hc0;have HB:=m0 (Below.refl w.heap.size w);unfold L_FormatLayers.f at H;have H':=m0 H;clear H;go_enter Tryz.func8,Tryz.ntmps8
 go_wp2
 go_loopg [3,8] k (fun kq v3 v8 w'=>∃ (x3_1:List ByteArray) (x8_1:Int),v8= .int .i64 x8_1∧Aside0 (L_FormatLayers.l0 kq x3_1 l0 (l0.length:Int) x8_1=some r)∧Aside0 (kq≤k)∧Aside0 (Kd.R Kd.string 9 w' w.heap.size (fun _=>True) v3 x3_1)∧Aside0 (Below w.heap.size w w'))
 case atStart=>exact⟨(([]:List ByteArray)),(0),rz,H',⟨Nat.le_refl _⟩,⟨by first|exact Kd.R_nil _ _ _ _ _|exact Kd.N_nil _ _ _ _ _|exact Kd.V_nil _ _ _ _ _|exact Kd.Q_nil _ _ _ _ _|exact Kd.S_nil _ _ _ _ _⟩,⟨bz⟩⟩
 case round=>
  clear H';obtain⟨x3_1,x8_1,rfl,HA,HK1,HO_3,HB⟩:=hrel
  cases gk with
  |zero=>exact absurd HA.out (by simp[L_FormatLayers.l0])
  | succ k1=>
   have H:=HA.out;clear HA;simp only[L_FormatLayers.l0]at H
   by_cases c2:x8_1<(l0.length:Int)
   ·rw [if_pos c2]at H;have c2b0:=decide_eq_true c2;clear c2
    by_cases c3:0≤x8_1
    ·rw [if_pos c3]at H;have c3b0:=decide_eq_true c3;clear c3
     by_cases c4:x8_1<(l0.length:Int)
     ·rw [if_pos c4]at H;have c4b0:=decide_eq_true c4;clear c4;obtain⟨y401,hy401⟩:∃ y_:List Int,y_=(([(rd_T64 l0 x8_1).f0,(rd_T64 l0 x8_1).f1,(rd_T64 l0 x8_1).f2]:List Int)):=⟨_,rfl⟩;replace H:((L_joined.f k1 y401).bind fun t404=>(if x3_1.length<8796093022208 then(L_FormatLayers.l0 k1 (x3_1++ [t404]) l0 (l0.length:Int) (wrap64 (x8_1+1)))else(none)))=some r:=hq hy401 H
      have Ny401:=m0 hy401;clear hy401;replace H:=oa H;obtain⟨t404,A5,H⟩:=H;(try dsimp only at H)
      by_cases c6:x3_1.length<8796093022208
      ·rw [if_pos c6]at H;have LMc6:=m0 c6;clear c6;obtain⟨y405,hy405⟩:∃ y_:List ByteArray,y_=(x3_1++ [t404]):=⟨_,rfl⟩;replace H:(L_FormatLayers.l0 k1 y405 l0 (l0.length:Int) (wrap64 (x8_1+1)))=some r:=hq hy405 H
       have Ny405:=m0 hy405;clear hy405;have H':=m0 H;clear H;have p399:0≤(x8_1:Int):=od;have q399:x8_1<(l0.length:Int):=od;obtain⟨ad399,e399,hx399_0,hx399_1,hx399_2⟩:=at_T64 HR0.out x8_1 p399 q399
       cases e399
       replace hx399_0:=hc HB hx399_0;replace hx399_1:=hc HB hx399_1;replace hx399_2:=hc HB hx399_2;replace p399:=eq_true p399;replace q399:=eq_true q399
       go_wp2_with (first|((with_reducible refine ga 5 rfl ?_);refine be 5 64 #[.int .i64 0,.int .i64 0,.int .i64 0] ?_;intro gb400 hg w7 hbox hb;replace HO_3:=rb HO_3 hb;have BK400:=m0 hbox;have GE400:=gw w hg;replace HB:=sb HB hb;clear hb hbox hg;obtain⟨_,_,_,_,_,_⟩:=b3 BK400)|((with_reducible refine ga 19 rfl ?_);refine Kd.R_lit (Kd.int .i64) _ 3 ?hg (N:=19) ?hd (xs:=([(rd_T64 l0 x8_1).f0,(rd_T64 l0 x8_1).f1,(rd_T64 l0 x8_1).f2]:List Int)) (inner:=[.int .i64 ((rd_T64 l0 x8_1).f0),.int .i64 ((rd_T64 l0 x8_1).f1),.int .i64 ((rd_T64 l0 x8_1).f2)]) (ok:=fun _=>True) (okp:=fun _=>True) ?hr ?hp (fun _ hk=>hk) trivial (Below.refl _ _) (Nat.le_refl _) (by simp) ?_;(case hd=>rfl);(case hg=>rfl);(case hr=>first|(go_simp;done)|(go_simp;rfl));(case hp=>exact(Reps.one (ki ((rd_T64 l0 x8_1).f0)) (Reps.one (ki ((rd_T64 l0 x8_1).f1)) (Reps.one (ki ((rd_T64 l0 x8_1).f2)) (Reps.none _ _)))));intro v402 w9 ho10 hb hg_ hnew_;clear hg_ hnew_;(first|rw[← Ny401.out]at ho10|(simp only[Int.reduceToNat]at ho10;rw[← Ny401.out]at ho10));replace HO_3:=m0 (Kd.R_below (by(with_reducible repeat(first|apply Kd.R_alloc|apply Kd.R_drewN|apply Kd.R_drew));exact(Kd.R_mono (rf (rf (rf (Kd.R_types HO_3.out BK400.out (by decide)) (·.2)) (·.2)) (·.2)) (fun _ h_=>h_.1))) hb);have HO403:=m0 (Kd.R_lower ho10 (below_size bz));replace BK400:=m0 (blk_below (g:=gb400) (o:= .cells #[.int .i64 ((rd_T64 l0 x8_1).f0),.int .i64 ((rd_T64 l0 x8_1).f1),.int .i64 ((rd_T64 l0 x8_1).f2)] 64 (0,0)) (bq BK400.out) hb);replace HB:=sb HB hb;clear hb ho10;obtain⟨Ao11,co11,eo11⟩:=Kd.R_slice HO403.out;subst eo11)|((with_reducible refine gc 28 rfl ?_);refine gl (some 20) Tryz.func28 #[.slice Ao11 y401.length co11] ?_;(with_reducible refine(L_joined.calls k1 _ _ y401 t404 _ ?side1 ?side2 ?side3 A5.out).mono ?_);(case side1=>exact bc (Kd.R_reads' HO403.out).2.2);(case side2=>exact(Kd.R_reads' HO403.out).2.1);(case side3=>exact EstG.below HG.out bz);rintro e w12 ⟨rfl,hb⟩;refine⟨_,rfl,?_⟩;replace HO_3:=rb HO_3 hb;replace HO403:=rb HO403 hb;replace BK400:=bb BK400 hb;replace HB:=sb HB hb;(try clear hb))|((with_reducible refine gate_builtin (b:= .append) (xs:= #[.tmp 12,.tmp 21]) rfl ?_);at_builtin;refine Kd.R_append Kd.string (w0:=w) w.heap.size rfl (.tmp 12) (.tmp 21) 62 9 (.string ⟨#[]⟩) 16 rfl Tryz.underlying62 info9 rfl (by decide) (by omega) u3 x3_1 t404 [.string t404] (fun _=>True) (fun _=>False) rfl rfl ?aP (fun _ hk=>hk.elim) ?aF ?aO ?aB ?aS ?aL ?_;(case aP=>exact rfl);(case aB=>exact bz);(case aF=>exact(fun _ _=>trivial));(case aO=>exact(br HO_3.out));(case aS=>exact(below_size bz));(case aL=>have:=LMc6.out;omega);intro v406 w13 ho hb hg hat;rw[← Ny405.out]at ho;have n0_:=m0 (blk_grown (g:=gb400) (o:= .cells #[.int .i64 ((rd_T64 l0 x8_1).f0),.int .i64 ((rd_T64 l0 x8_1).f1),.int .i64 ((rd_T64 l0 x8_1).f2)] 64 (0,0)) (bk BK400.out) hg (Kd.R_ne HO_3.out BK400.out (by decide)));have n1_:=m0 (Kd.R_over' (br HO403.out) (Kd.R_typed (br HO_3.out)) (by decide) hg);have n2_:=m0 (hb);have n3_:=m0 (ho);clear BK400 HO403 HB HO_3;have BK400:=n0_;have HO403:=n1_;have HB:=n2_;have HO407:=n3_;clear n0_ n1_ n2_ n3_;clear ho hb hg hat))
       go_roundg k1
       case measure=>have:=HK1.out;omega
       case rel=>exact⟨(y405),(wrap64 (x8_1+1)),rz,H',⟨by have:=HK1.out;omega⟩,⟨br HO407.out⟩,⟨bz⟩⟩
      ·rw [if_neg c6]at H;exact absurd H (by simp)
     ·rw [if_neg c4]at H;exact absurd H (by simp)
    ·rw [if_neg c3]at H;exact absurd H (by simp)
   ·rw [if_neg c2]at H;have c2b0:=decide_eq_false c2;clear c2;replace H:=oa H;obtain⟨t408,A14,H⟩:=H;(try dsimp only at H);obtain rfl:=Option.some.inj H;obtain⟨Ao15,co15,eo15⟩:=Kd.R_slice HO_3.out;subst eo15
    go_wp2_with (first|((with_reducible refine gc 29 rfl ?_);refine gl (some 25) Tryz.func29 #[.slice Ao15 x3_1.length co15,.string (⟨#[59]⟩:ByteArray)] ?_;(with_reducible refine(strings_Join.calls _ _ x3_1 (⟨#[59]⟩:ByteArray) t408 _ ?side1 ?side2 A14.out).mono ?_);(case side1=>exact bc (Kd.R_reads' HO_3.out).2.2);(case side2=>exact(Kd.R_reads' HO_3.out).2.1);rintro e w16 ⟨rfl,hb⟩;refine⟨_,rfl,?_⟩;replace HO_3:=rb HO_3 hb;replace HB:=sb HB hb;(try clear hb)))
    go_ret
    exact ez
end
section
def Rf_CopyLayers.f (l0:List (S64)):Option ((List (S64))):=(some (([]:List (S64)):List (S64))).bind fun y409=>(if y409.length+l0.length<5864062014805 then(some (y409++l0))else(none))
theorem Rf_CopyLayers.calls (A0:Option Addr) (c0:Nat) (l0:List (S64)) (r:List (S64)) (w:World) (hr0:Kd.C k64 w A0 l0.length l0) (hc0:l0.length≤c0) (H:Rf_CopyLayers.f l0=some r):
  Calls Tryz.prog 9 #[.slice A0 l0.length c0] w fun e w'=>∃ v0_:Value,e= .returned (v0_)∧Kd.R k64 64 w' w.heap.size (fun _=>True) v0_ r∧Below w.heap.size w w':=by
 have HR0:=m0 hr0;have HC0:=m0 hc0;clear hr0 hc0;have HB:=m0 (Below.refl w.heap.size w);unfold Rf_CopyLayers.f at H;obtain⟨y409,hy409⟩:∃ y_:List (S64),y_=(([]:List (S64))):=⟨_,rfl⟩;replace H:(if y409.length+l0.length<5864062014805 then(some (y409++l0))else(none))=some r:=hq hy409 H
 have Ny409:=m0 hy409;clear hy409
 by_cases c2:y409.length+l0.length<5864062014805
 ·rw [if_pos c2]at H;have LMc2:=m0 c2;clear c2;obtain⟨y412,hy412⟩:∃ y_:List (S64),y_=(y409++l0):=⟨_,rfl⟩;replace H:(some y412)=some r:=hq hy412 H
  have Ny412:=m0 hy412;clear hy412;obtain rfl:=Option.some.inj H;go_enter Tryz.func9,Tryz.ntmps9
  go_wp2_with (first|((with_reducible refine ga 3 rfl ?_);refine Kd.R_lit k64 _ 64 ?hg (N:=3) ?hd (xs:=([]:List (S64))) (inner:=[]) (ok:=fun _=>True) (okp:=fun _=>True) ?hr ?hp (fun _ hk=>hk) trivial (Below.refl _ _) (Nat.le_refl _) (by simp) ?_;(case hd=>rfl);(case hg=>rfl);(case hr=>first|(go_simp;done)|(go_simp;rfl));(case hp=>exact(Reps.none _ _));intro v410 w3 ho4 hb hg_ hnew_;clear hg_ hnew_;(first|rw[← Ny409.out]at ho4|(simp only[Int.reduceToNat]at ho4;rw[← Ny409.out]at ho4));have HO411:=m0 (Kd.R_lower ho4 (below_size bz));replace HB:=sb HB hb;clear hb ho4)|((with_reducible refine gate_builtin (b:= .append) (xs:= #[.tmp 3,.tmp 4]) rfl ?_);at_builtin;refine Kd.R_append_rows k64 (w0:=w) w.heap.size rfl (.tmp 3) (.tmp 4) 23 64 (.agg #[(.int .i64 0),(.int .i64 0),(.int .i64 0)]) 24 rfl Tryz.underlying23 info64 rfl (by decide) (by omega) v410 y409 l0 _ _ _ (fun _=>True) (fun _=>False) rfl rfl ?aO ?aR (fun _ _ h=>h) (fun _ h=>h.elim) ?aF ?aB ?aS ?aL ?_;(case aR=>exact cb HR0 HB);(case aB=>exact bz);(case aF=>exact(fun _ _=>trivial));(case aO=>exact(br HO411.out));(case aS=>exact(below_size bz));(case aL=>have:=LMc2.out;omega);intro v413 w5 ho hb hg hat;rw[← Ny412.out]at ho;have n0_:=m0 (hb);have n1_:=m0 (ho);clear HB HO411;have HB:=n0_;have HO414:=n1_;clear n0_ n1_;clear ho hb hg hat))
  go_ret
  exact⟨_,e4,by(with_reducible repeat(first|apply Kd.R_alloc|apply Kd.R_drewN|apply Kd.R_drew));exact HO414.out,bz⟩
 ·rw [if_neg c2]at H;exact absurd H (by simp)
end
end Go.Proofs.YteiafijbgjgiaaaGreatDoor.A
