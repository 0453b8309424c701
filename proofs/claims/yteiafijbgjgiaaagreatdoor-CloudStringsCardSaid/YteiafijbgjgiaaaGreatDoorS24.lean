/- Walks of the program's functions (printed, made shorter), each with what it computes. -/
import Derived.Test.YteiafijbgjgiaaaGreatDoorS23
namespace Go.Proofs.YteiafijbgjgiaaaGreatDoor.A
set_option maxHeartbeats 8000000
set_option maxRecDepth 100000
open Go.RowKit Go.Proofs.YteiafijbgjgiaaaGreatDoorW.PrintWords Go.Proofs.YteiafijbgjgiaaaGreatDoorW.PrintLast Go.Proofs.YteiafijbgjgiaaaGreatDoorW.PrintMore
attribute [local go_sem] max2_int min2_int max_two min_two max_three min_three max_four min_four
set_option linter.unusedVariables false
set_option linter.unusedSimpArgs false
section
mutual
def Bs_Decimal.j0:Nat→Int→ByteArray→ByteArray→Option (ByteArray)
  |0,_,_,_=>none
  |k+1,x0,x3,x4=>Bs_Decimal.l0 k x0 x3 x4
def Bs_Decimal.l0:Nat→Int→ByteArray→ByteArray→Option (ByteArray)
  |0,_,_,_=>none
  |k+1,x0,x3,x4=>if x0=0 then(if x4.size+x3.size≤9223372036854775807 then(some (x4++x3))else(none))else((Bs_Size.f (Int.tmod x0 10)).bind fun t470=>((some (([(wrap64 (48+t470)) % 256]:List Int):List Int)).bind fun y471=>(if(strOfNums y471).size+x3.size≤9223372036854775807 then(Bs_Decimal.l0 k (wrap64 (Int.tdiv x0 10)) ((strOfNums y471)++x3) x4)else(none))))
end
def Bs_Decimal.f (k:Nat) (a0:Int):Option (ByteArray):=if a0=0 then(some (⟨#[48]⟩:ByteArray))else(if a0<0 then(Bs_Decimal.j0 k a0 (⟨#[]⟩:ByteArray) (⟨#[45]⟩:ByteArray))else(Bs_Decimal.j0 k a0 (⟨#[]⟩:ByteArray) (⟨#[]⟩:ByteArray)))
theorem Bs_Decimal.mono_l:∀ k,(∀ y0 y1 y2,LeO (Bs_Decimal.j0 k y0 y1 y2) (Bs_Decimal.j0 (k+1) y0 y1 y2))∧(∀ y0 y1 y2,LeO (Bs_Decimal.l0 k y0 y1 y2) (Bs_Decimal.l0 (k+1) y0 y1 y2))
  |0=>⟨fun _ _ _ r h=>by simp[Bs_Decimal.j0]at h,fun _ _ _ r h=>by simp[Bs_Decimal.l0]at h⟩
  | k +1=>by
    obtain⟨ih0,ih1⟩:=Bs_Decimal.mono_l k;refine⟨?_,?_⟩
    · intro y0 y1 y2;unfold Bs_Decimal.j0
      exact lz
    · intro y0 y1 y2;unfold Bs_Decimal.l0
      exact lz
theorem Bs_Decimal.mono:∀ a0 k,LeO (Bs_Decimal.f k a0) (Bs_Decimal.f (k+1) a0):=by
  intro a0 k;obtain⟨ih0,ih1⟩:=Bs_Decimal.mono_l k;unfold Bs_Decimal.f
  exact lz
theorem Bs_Decimal.calls (k:Nat) (a0:Int) (r:ByteArray) (w:World) (H:Bs_Decimal.f k a0=some r):
    Calls Tryz.prog 67 #[.int .i64 a0] w fun e w'=>e= .returned (.string r)∧Below w.heap.size w w':=by
  have HB:=m0 (Below.refl w.heap.size w);unfold Bs_Decimal.f at H
  by_cases c2:a0=0
  · rw[if_pos c2]at H;have c2b0:=beq_iff_eq.mpr c2;have c2b1:=bne_eq_false_iff_eq.mpr c2;clear c2;obtain rfl:=Option.some.inj H;go_enter Tryz.func67,Tryz.ntmps67
    go_wp2
    go_ret
    exact ez
  · rw [if_neg c2]at H;have c2b0:=beq_eq_false_iff_ne.mpr c2;have c2b1:=bne_iff_ne.mpr c2;have HC3:=m0 H;clear H;go_enter Tryz.func67,Tryz.ntmps67
    go_upto_if 9 with (fail)
    go_cut [4] (fun v4 wc=>∃ (kq:Nat) (x4_2:ByteArray),v4= .string x4_2∧Aside0 (Bs_Decimal.j0 kq a0 (⟨#[]⟩:ByteArray) x4_2=some r)∧Aside0 (kq≤k)∧Aside0 (Below w.heap.size w wc))
    case first=>
      have H:=HC3.out;clear HC3
      by_cases c4:a0<0
      · rw[if_pos c4]at H;have c4b0:=decide_eq_true c4;clear c4
        (first|rw[c4b0]|(simp only[i64_w,i32_w];rw[c4b0])|skip)
        have H':=m0 H;clear H
        go_wp2
        go_meet
        case rel=>exact⟨_,((⟨#[45]⟩:ByteArray)),rz,H',⟨by first|omega|exact Nat.le_refl _⟩,⟨bz⟩⟩
      · rw[if_neg c4]at H;have c4b0:=decide_eq_false c4;clear c4
        (first|rw[c4b0]|(simp only[i64_w,i32_w];rw[c4b0])|skip)
        have H':=m0 H;clear H
        go_wp2
        go_meet
        case rel=>exact⟨_,((⟨#[]⟩:ByteArray)),rz,H',⟨by first|omega|exact Nat.le_refl _⟩,⟨bz⟩⟩
    case rest =>
      clear HC3;obtain⟨kq,x4_2,rfl,HA,HJ2,HB⟩:=hcut
      cases kq with
      |zero=>exact absurd HA.out (by simp[Bs_Decimal.j0])
      | succ kj2=>
        have H:=HA.out;clear HA;simp only[Bs_Decimal.j0]at H;have H':=m0 H;clear H
        go_wp2
        go_loopg [0,3] kj2 (fun kq v0 v3 w'=>∃ (x0_2:Int) (x3_2:ByteArray),v0= .int .i64 x0_2∧v3= .string x3_2∧Aside0 (Bs_Decimal.l0 kq x0_2 x3_2 x4_2=some r)∧Aside0 (kq≤kj2)∧Aside0 (Below w.heap.size w w'))
        case atStart=>exact⟨(a0),((⟨#[]⟩:ByteArray)),rz,rz,H',⟨Nat.le_refl _⟩,⟨bz⟩⟩
        case round=>
          clear H';obtain⟨x0_2,x3_2,rfl,rfl,HA,HK2,HB⟩:=hrel
          cases gk with
          |zero=>exact absurd HA.out (by simp[Bs_Decimal.l0])
          | succ k2=>
            have H:=HA.out;clear HA;simp only[Bs_Decimal.l0]at H
            by_cases c5:x0_2=0
            · rw[if_pos c5]at H;have c5b0:=beq_iff_eq.mpr c5;have c5b1:=bne_eq_false_iff_eq.mpr c5;clear c5
              by_cases c6:x4_2.size+x3_2.size≤9223372036854775807
              · rw[if_pos c6]at H;have c6b0:=eq_true c6;have c6b1:=decide_eq_true c6
                try have c6b2:(9223372036854775807<x4_2.size+x3_2.size)=False:=eq_false (Nat.not_lt.2 c6)
                obtain rfl:=Option.some.inj H
                go_wp2
                go_ret
                exact ez
              · rw[if_neg c6]at H;exact absurd H (by simp)
            · rw[if_neg c5]at H;have c5b0:=beq_eq_false_iff_ne.mpr c5;have c5b1:=bne_iff_ne.mpr c5;replace H:=oa H;obtain⟨t470,A7,H⟩:=H;(try dsimp only at H);obtain⟨y471,hy471⟩:∃ y_:List Int,y_=(([(wrap64 (48+t470)) % 256]:List Int)):=⟨_,rfl⟩;replace H:(if(strOfNums y471).size+x3_2.size≤9223372036854775807 then(Bs_Decimal.l0 k2 (wrap64 (Int.tdiv x0_2 10)) ((strOfNums y471)++x3_2) x4_2)else(none))=some r:=hq hy471 H
              have Ny471:=m0 hy471;clear hy471
              by_cases c8:(strOfNums y471).size+x3_2.size≤9223372036854775807
              · rw[if_pos c8]at H;have c8b0:=eq_true c8;have c8b1:=decide_eq_true c8
                try have c8b2:(9223372036854775807<(strOfNums y471).size+x3_2.size)=False:=eq_false (Nat.not_lt.2 c8)
                have H':=m0 H;clear H
                go_wp2_with (first|((with_reducible refine gc 92 rfl ?_);refine gl (some 15) Tryz.func92 #[.int .i64 (Int.tmod x0_2 10)] ?_;(with_reducible refine(Bs_Size.calls (Int.tmod x0_2 10) t470 _ A7.out).mono ?_);rintro e w9 ⟨rfl,hb⟩;refine⟨_,rfl,?_⟩;replace HB:=sb HB hb;(try clear hb))|((with_reducible refine ga 18 rfl ?_);refine Kd.R_lit (Kd.int .u8) _ 5 ?hg (N:=18) ?hd (xs:=([(wrap64 (48+t470)) % 256]:List Int)) (inner:=[.int .u8 ((wrap64 (48+t470)) % 256)]) (ok:=fun _=>True) (okp:=fun _=>True) ?hr ?hp (fun _ hk=>hk) trivial (Below.refl _ _) (Nat.le_refl _) (by simp) ?_;(case hd=>rfl);(case hg=>rfl);(case hr=>first|(go_simp;done)|(go_simp;rfl));(case hp=>exact(Reps.one (show Kd.M (Kd.int .u8) _ _ _ ((wrap64 (48+t470)) % 256) [.int .u8 ((wrap64 (48+t470)) % 256)]from rfl) (Reps.none _ _)));intro v472 w10 ho11 hb hg_ hnew_;clear hg_ hnew_;(first|rw[← Ny471.out]at ho11|(simp only[Int.reduceToNat]at ho11;rw[← Ny471.out]at ho11));have HO473:=m0 (Kd.R_lower ho11 (below_size bz));replace HB:=sb HB hb;clear hb ho11;have hcv12:=own_string (P:=Tryz.prog) Tryz.underlying104 Tryz.underlying5 Tryz.underlying9 (Kd.own_of_R HO473.out)))
                go_roundg k2
                case measure=>have:=HJ2.out;have:=HK2.out;omega
                case rel=>exact⟨(wrap64 (Int.tdiv x0_2 10)),((strOfNums y471)++x3_2),rz,rz,H',⟨by have:=HJ2.out;have:=HK2.out;omega⟩,⟨bz⟩⟩
              · rw[if_neg c8]at H;exact absurd H (by simp)
end
section
def Rf_words.l0:Nat→List Int→ByteArray→Int→Option (ByteArray)
 |0,_,_,_=>none
 |k+1,x0,x3,x4=>if x4<(x0.length:Int)then(if x4>0 then(if x3.size+1≤9223372036854775807 then(if 0≤x4 then((Bs_Decimal.f k (rd x0 x4)).bind fun t475=>(if(x3++(⟨#[32]⟩:ByteArray)).size+t475.size≤9223372036854775807 then(Rf_words.l0 k x0 ((x3++(⟨#[32]⟩:ByteArray))++t475) (wrap64 (x4+1)))else(none)))else(none))else(none))else(if 0≤x4 then((Bs_Decimal.f k (rd x0 x4)).bind fun t477=>(if x3.size+t477.size≤9223372036854775807 then(Rf_words.l0 k x0 (x3++t477) (wrap64 (x4+1)))else(none)))else(none)))else(some x3)
def Rf_words.f (k:Nat) (l0:List Int):Option (ByteArray):=Rf_words.l0 k l0 (⟨#[]⟩:ByteArray) 0
theorem Rf_words.mono_l:∀ k,(∀ y0 y1 y2,LeO (Rf_words.l0 k y0 y1 y2) (Rf_words.l0 (k+1) y0 y1 y2))
 |0=>fun _ _ _ r h=>by simp[Rf_words.l0]at h
 | k+1=>by
  have ih0:=Rf_words.mono_l k
  ·intro y0 y1 y2;unfold Rf_words.l0
   have m1:=@Bs_Decimal.mono;exact lz
theorem Rf_words.mono:∀ a0 k,LeO (Rf_words.f k a0) (Rf_words.f (k+1) a0):=by
 intro a0 k;have ih0:=Rf_words.mono_l k;unfold Rf_words.f
 have m1:=@Bs_Decimal.mono;exact lz
theorem Rf_words.calls (k:Nat) (A0:Option Addr) (c0:Nat) (l0:List Int) (r:ByteArray) (w:World) (hr0:Kd.C (Kd.int .i64) w A0 l0.length l0) (hc0:l0.length≤c0) (H:Rf_words.f k l0=some r):
  Calls Tryz.prog 36 #[.slice A0 l0.length c0] w fun e w'=>e= .returned (.string r)∧Below w.heap.size w w':=by
 have HR0:=m0 hr0;have HC0:=m0 hc0;clear hr0 hc0;have HB:=m0 (Below.refl w.heap.size w);unfold Rf_words.f at H;have H':=m0 H;clear H;go_enter Tryz.func36,Tryz.ntmps36
 go_wp2
 go_loopg [3,4] k (fun kq v3 v4 w'=>∃ (x3_1:ByteArray) (x4_1:Int),v3= .string x3_1∧v4= .int .i64 x4_1∧Aside0 (Rf_words.l0 kq l0 x3_1 x4_1=some r)∧Aside0 (kq≤k)∧Aside0 (Below w.heap.size w w'))
 case atStart=>exact⟨((⟨#[]⟩:ByteArray)),(0),rz,rz,H',⟨Nat.le_refl _⟩,⟨bz⟩⟩
 case round=>
  clear H';obtain⟨x3_1,x4_1,rfl,rfl,HA,HK1,HB⟩:=hrel
  cases gk with
  |zero=>exact absurd HA.out (by simp[Rf_words.l0])
  | succ k1=>
   have H:=HA.out;clear HA;simp only[Rf_words.l0]at H
   by_cases c2:x4_1<(l0.length:Int)
   ·rw [if_pos c2]at H;have c2b0:=decide_eq_true c2;clear c2
    by_cases c3:x4_1>0
    ·rw [if_pos c3]at H;have c3b0:=decide_eq_true c3;clear c3
     by_cases c4:x3_1.size+1≤9223372036854775807
     ·rw [if_pos c4]at H;have c4b0:=eq_true c4;have c4b1:=decide_eq_true c4
      try have c4b2:(9223372036854775807<x3_1.size+1)=False:=eq_false (Nat.not_lt.2 c4)
      by_cases c5:0≤x4_1
      ·rw [if_pos c5]at H;have c5b0:=decide_eq_true c5;clear c5;replace H:=oa H;obtain⟨t475,A6,H⟩:=H;(try dsimp only at H)
       by_cases c7:(x3_1++(⟨#[32]⟩:ByteArray)).size+t475.size≤9223372036854775807
       ·rw [if_pos c7]at H;have c7b0:=eq_true c7;have c7b1:=decide_eq_true c7
        try have c7b2:(9223372036854775807<(x3_1++(⟨#[32]⟩:ByteArray)).size+t475.size)=False:=eq_false (Nat.not_lt.2 c7)
        have c7b9_:x3_1.size+1+t475.size≤9223372036854775807:=by have h_:=c7;rw[ByteArray.size_append]at h_;exact h_
        have c7b9t_:=eq_true c7b9_;have c7b9f_:(9223372036854775807<x3_1.size+1+t475.size)=False:=eq_false (Nat.not_lt.2 c7b9_);have c7b9d_:decide (x3_1.size+1+t475.size≤9223372036854775807)=true:=decide_eq_true c7b9_;clear c7b9_;have H':=m0 H;clear H;have p474:0≤(x4_1:Int):=od;have q474:x4_1<(l0.length:Int):=od;obtain⟨ad474,e474,hx474_0⟩:=Kd.at_int HR0.out x4_1 p474 q474
        cases e474
        replace hx474_0:=hc HB hx474_0;replace p474:=eq_true p474;replace q474:=eq_true q474
        go_wp2_with (first|((with_reducible refine gc 67 rfl ?_);refine gl (some 20) Tryz.func67 #[.int .i64 (rd l0 x4_1)] ?_;(with_reducible refine(Bs_Decimal.calls k1 (rd l0 x4_1) t475 _ A6.out).mono ?_);rintro e w8 ⟨rfl,hb⟩;refine⟨_,rfl,?_⟩;replace HB:=sb HB hb;(try clear hb)))
        go_roundg k1
        case measure=>have:=HK1.out;omega
        case rel=>exact⟨((x3_1++(⟨#[32]⟩:ByteArray))++t475),(wrap64 (x4_1+1)),rz,rz,H',⟨by have:=HK1.out;omega⟩,⟨bz⟩⟩
       ·rw [if_neg c7]at H;exact absurd H (by simp)
      ·rw [if_neg c5]at H;exact absurd H (by simp)
     ·rw [if_neg c4]at H;exact absurd H (by simp)
    ·rw [if_neg c3]at H;have c3b0:=decide_eq_false c3;clear c3
     by_cases c9:0≤x4_1
     ·rw [if_pos c9]at H;have c9b0:=decide_eq_true c9;clear c9;replace H:=oa H;obtain⟨t477,A10,H⟩:=H;(try dsimp only at H)
      by_cases c11:x3_1.size+t477.size≤9223372036854775807
      ·rw [if_pos c11]at H;have c11b0:=eq_true c11;have c11b1:=decide_eq_true c11
       try have c11b2:(9223372036854775807<x3_1.size+t477.size)=False:=eq_false (Nat.not_lt.2 c11)
       have H':=m0 H;clear H;have p476:0≤(x4_1:Int):=od;have q476:x4_1<(l0.length:Int):=od;obtain⟨ad476,e476,hx476_0⟩:=Kd.at_int HR0.out x4_1 p476 q476
       cases e476
       replace hx476_0:=hc HB hx476_0;replace p476:=eq_true p476;replace q476:=eq_true q476
       go_wp2_with (first|((with_reducible refine gc 67 rfl ?_);refine gl (some 20) Tryz.func67 #[.int .i64 (rd l0 x4_1)] ?_;(with_reducible refine(Bs_Decimal.calls k1 (rd l0 x4_1) t477 _ A10.out).mono ?_);rintro e w12 ⟨rfl,hb⟩;refine⟨_,rfl,?_⟩;replace HB:=sb HB hb;(try clear hb)))
       go_roundg k1
       case measure=>have:=HK1.out;omega
       case rel=>exact⟨(x3_1++t477),(wrap64 (x4_1+1)),rz,rz,H',⟨by have:=HK1.out;omega⟩,⟨bz⟩⟩
      ·rw [if_neg c11]at H;exact absurd H (by simp)
     ·rw [if_neg c9]at H;exact absurd H (by simp)
   ·rw [if_neg c2]at H;have c2b0:=decide_eq_false c2;clear c2;obtain rfl:=Option.some.inj H
    go_wp2
    go_ret
    exact ez
end
section
def Rf_FormatProfile.f (k:Nat) (l0:List Int):Option (ByteArray):=(Rf_words.f k l0).bind fun t478=>(some t478)
theorem Rf_FormatProfile.mono:∀ a0 k,LeO (Rf_FormatProfile.f k a0) (Rf_FormatProfile.f (k+1) a0):=by
 intro a0 k;unfold Rf_FormatProfile.f
 have m1:=@Rf_words.mono;exact lz
theorem Rf_FormatProfile.calls (k:Nat) (A0:Option Addr) (c0:Nat) (l0:List Int) (r:ByteArray) (w:World) (hr0:Kd.C (Kd.int .i64) w A0 l0.length l0) (hc0:l0.length≤c0) (H:Rf_FormatProfile.f k l0=some r):
  Calls Tryz.prog 14 #[.slice A0 l0.length c0] w fun e w'=>e= .returned (.string r)∧Below w.heap.size w w':=by
 have HR0:=m0 hr0;have HC0:=m0 hc0;clear hr0 hc0;have HB:=m0 (Below.refl w.heap.size w);unfold Rf_FormatProfile.f at H;replace H:=oa H;obtain⟨t478,A2,H⟩:=H;(try dsimp only at H);obtain rfl:=Option.some.inj H;go_enter Tryz.func14,Tryz.ntmps14
 go_wp2_with (first|((with_reducible refine gc 36 rfl ?_);refine gl (some 4) Tryz.func36 #[.slice A0 l0.length c0] ?_;(with_reducible refine(Rf_words.calls k _ _ l0 t478 _ ?side1 ?side2 A2.out).mono ?_);(case side1=>exact cd HR0.out);(case side2=>exact HC0.out);rintro e w3 ⟨rfl,hb⟩;refine⟨_,rfl,?_⟩;replace HB:=sb HB hb;(try clear hb)))
 go_ret
 exact ez
end
section
def Rf_FormatLayers.l0:Nat→List (S64)→ByteArray→Int→Option (ByteArray)
 |0,_,_,_=>none
 |k+1,x0,x3,x4=>if x4<(x0.length:Int)then(if x4>0 then(if x3.size+1≤9223372036854775807 then(if 0≤x4 then((Rf_words.f k (([(rd_T64 x0 x4).f0,(rd_T64 x0 x4).f1,(rd_T64 x0 x4).f2]:List Int))).bind fun t485=>(if(x3++(⟨#[59]⟩:ByteArray)).size+t485.size≤9223372036854775807 then(Rf_FormatLayers.l0 k x0 ((x3++(⟨#[59]⟩:ByteArray))++t485) (wrap64 (x4+1)))else(none)))else(none))else(none))else(if 0≤x4 then((Rf_words.f k (([(rd_T64 x0 x4).f0,(rd_T64 x0 x4).f1,(rd_T64 x0 x4).f2]:List Int))).bind fun t492=>(if x3.size+t492.size≤9223372036854775807 then(Rf_FormatLayers.l0 k x0 (x3++t492) (wrap64 (x4+1)))else(none)))else(none)))else(some x3)
def Rf_FormatLayers.f (k:Nat) (l0:List (S64)):Option (ByteArray):=Rf_FormatLayers.l0 k l0 (⟨#[]⟩:ByteArray) 0
theorem Rf_FormatLayers.mono_l:∀ k,(∀ y0 y1 y2,LeO (Rf_FormatLayers.l0 k y0 y1 y2) (Rf_FormatLayers.l0 (k+1) y0 y1 y2))
 |0=>fun _ _ _ r h=>by simp[Rf_FormatLayers.l0]at h
 | k+1=>by
  have ih0:=Rf_FormatLayers.mono_l k
  ·intro y0 y1 y2;unfold Rf_FormatLayers.l0
   have m1:=@Rf_words.mono;exact lz
theorem Rf_FormatLayers.mono:∀ a0 k,LeO (Rf_FormatLayers.f k a0) (Rf_FormatLayers.f (k+1) a0):=by
 intro a0 k;have ih0:=Rf_FormatLayers.mono_l k;unfold Rf_FormatLayers.f
 have m1:=@Rf_words.mono;exact lz
def Rf_FormatLayers.T7:Bool×List (List Nat×List Nat):=(true,[([],[]),([],[]),([],[]),([1,2],[1,2]),([3],[3]),([4],[4]),([],[]),([],[]),([6,7],[6,7]),([8],[8]),([9],[9]),([],[]),([],[]),([11,12],[11,12]),([13],[13]),([14],[14]),([5,10,15],[5,10,15]),([16],[16]),([0,17],[0,17]),([18,17,0,1,2,3,4,5,6,7,8,9,10,11,12,13,14,15,16,17,18],[0,18])])
def Rf_FormatLayers.B7:List Nat:=[0,0,0,6,14,30,0,0,192,448,960,0,0,6144,14336,30720,65534,131070,262143,524287]
theorem Rf_FormatLayers.tab7:rtab .any (opsOf Tryz.f15 7)=Rf_FormatLayers.T7:=by kernel_rfl
theorem Rf_FormatLayers.bits7:waitsOk Rf_FormatLayers.T7.2 Rf_FormatLayers.B7=true:=by kernel_rfl
theorem Rf_FormatLayers.calls (k:Nat) (A0:Option Addr) (c0:Nat) (l0:List (S64)) (r:ByteArray) (w:World) (hr0:Kd.C k64 w A0 l0.length l0) (hc0:l0.length≤c0) (H:Rf_FormatLayers.f k l0=some r):
  Calls Tryz.prog 15 #[.slice A0 l0.length c0] w fun e w'=>e= .returned (.string r)∧Below w.heap.size w w':=by
 have HR0:=m0 hr0;have HC0:=m0 hc0;clear hr0 hc0;have HB:=m0 (Below.refl w.heap.size w);unfold Rf_FormatLayers.f at H;have H':=m0 H;clear H;go_enter Tryz.func15,Tryz.ntmps15
 go_wp2
 go_loopg [3,4] k (fun kq v3 v4 w'=>∃ (x3_1:ByteArray) (x4_1:Int),v3= .string x3_1∧v4= .int .i64 x4_1∧Aside0 (Rf_FormatLayers.l0 kq l0 x3_1 x4_1=some r)∧Aside0 (kq≤k)∧Aside0 (Below w.heap.size w w'))
 case atStart=>exact⟨((⟨#[]⟩:ByteArray)),(0),rz,rz,H',⟨Nat.le_refl _⟩,⟨bz⟩⟩
 case round=>
  clear H';obtain⟨x3_1,x4_1,rfl,rfl,HA,HK1,HB⟩:=hrel
  cases gk with
  |zero=>exact absurd HA.out (by simp[Rf_FormatLayers.l0])
  | succ k1=>
   have H:=HA.out;clear HA;simp only[Rf_FormatLayers.l0]at H
   by_cases c2:x4_1<(l0.length:Int)
   ·rw [if_pos c2]at H;have c2b0:=decide_eq_true c2;clear c2
    by_cases c3:x4_1>0
    ·rw [if_pos c3]at H;have c3b0:=decide_eq_true c3;clear c3
     by_cases c4:x3_1.size+1≤9223372036854775807
     ·rw [if_pos c4]at H;have c4b0:=eq_true c4;have c4b1:=decide_eq_true c4
      try have c4b2:(9223372036854775807<x3_1.size+1)=False:=eq_false (Nat.not_lt.2 c4)
      by_cases c5:0≤x4_1
      ·rw [if_pos c5]at H;have c5b0:=decide_eq_true c5;clear c5;obtain⟨y482,hy482⟩:∃ y_:List Int,y_=(([(rd_T64 l0 x4_1).f0,(rd_T64 l0 x4_1).f1,(rd_T64 l0 x4_1).f2]:List Int)):=⟨_,rfl⟩;replace H:((Rf_words.f k1 y482).bind fun t485=>(if(x3_1++(⟨#[59]⟩:ByteArray)).size+t485.size≤9223372036854775807 then(Rf_FormatLayers.l0 k1 l0 ((x3_1++(⟨#[59]⟩:ByteArray))++t485) (wrap64 (x4_1+1)))else(none)))=some r:=hq hy482 H
       have Ny482:=m0 hy482;clear hy482;replace H:=oa H;obtain⟨t485,A6,H⟩:=H;(try dsimp only at H)
       by_cases c7:(x3_1++(⟨#[59]⟩:ByteArray)).size+t485.size≤9223372036854775807
       ·rw [if_pos c7]at H;have c7b0:=eq_true c7;have c7b1:=decide_eq_true c7
        try have c7b2:(9223372036854775807<(x3_1++(⟨#[59]⟩:ByteArray)).size+t485.size)=False:=eq_false (Nat.not_lt.2 c7)
        have c7b9_:x3_1.size+1+t485.size≤9223372036854775807:=by have h_:=c7;rw[ByteArray.size_append]at h_;exact h_
        have c7b9t_:=eq_true c7b9_;have c7b9f_:(9223372036854775807<x3_1.size+1+t485.size)=False:=eq_false (Nat.not_lt.2 c7b9_);have c7b9d_:decide (x3_1.size+1+t485.size≤9223372036854775807)=true:=decide_eq_true c7b9_;clear c7b9_;have H':=m0 H;clear H
        try go_wp2
        replace HB:=sd HB;have p479:0≤(x4_1:Int):=od;have q479:x4_1<(l0.length:Int):=od;obtain⟨ad479,e479,hx479_0,hx479_1,hx479_2⟩:=at_T64 HR0.out x4_1 p479 q479;have hw479_2:=hx479_2;have hw479_1:=hx479_1;have hw479_0:=hx479_0
        cases e479
        replace hx479_0:=hc HB hx479_0;replace hx479_1:=hc HB hx479_1;replace hx479_2:=hc HB hx479_2;replace p479:=eq_true p479;replace q479:=eq_true q479;have p480:0≤(x4_1:Int):=od;have q480:x4_1<(l0.length:Int):=od;obtain⟨ad480,e480,hx480_0,hx480_1,hx480_2⟩:=at_T64 HR0.out x4_1 p480 q480;have hw480_2:=hx480_2;have hw480_1:=hx480_1;have hw480_0:=hx480_0;obtain rfl:ad479=ad480:=(by injection e480);replace hx480_0:=hc HB hx480_0;replace hx480_1:=hc HB hx480_1;replace hx480_2:=hc HB hx480_2;replace p480:=eq_true p480;replace q480:=eq_true q480;have p481:0≤(x4_1:Int):=od;have q481:x4_1<(l0.length:Int):=od;obtain⟨ad481,e481,hx481_0,hx481_1,hx481_2⟩:=at_T64 HR0.out x4_1 p481 q481;have hw481_2:=hx481_2;have hw481_1:=hx481_1;have hw481_0:=hx481_0;obtain rfl:ad479=ad481:=(by injection e481);replace hx481_0:=hc HB hx481_0;replace hx481_1:=hc HB hx481_1;replace hx481_2:=hc HB hx481_2;replace p481:=eq_true p481;replace q481:=eq_true q481;refine start_ (n:=20) (S:=fun w'=>w'.cell? (ad479.add ((x4_1).toNat*3))=some (.int .i64 ((rd_T64 l0 x4_1).f0))∧w'.cell? ⟨(ad479.add ((x4_1).toNat*3)).block,(ad479.add ((x4_1).toNat*3)).off+1,none⟩=some (.int .i64 ((rd_T64 l0 x4_1).f1))∧w'.cell? ⟨(ad479.add ((x4_1).toNat*3)).block,(ad479.add ((x4_1).toNat*3)).off+2,none⟩=some (.int .i64 ((rd_T64 l0 x4_1).f2))∧w'.cell? (ad479.add ((x4_1).toNat*3))=some (.int .i64 ((rd_T64 l0 x4_1).f0))∧w'.cell? ⟨(ad479.add ((x4_1).toNat*3)).block,(ad479.add ((x4_1).toNat*3)).off+1,none⟩=some (.int .i64 ((rd_T64 l0 x4_1).f1))∧w'.cell? ⟨(ad479.add ((x4_1).toNat*3)).block,(ad479.add ((x4_1).toNat*3)).off+2,none⟩=some (.int .i64 ((rd_T64 l0 x4_1).f2))∧w'.cell? (ad479.add ((x4_1).toNat*3))=some (.int .i64 ((rd_T64 l0 x4_1).f0))∧w'.cell? ⟨(ad479.add ((x4_1).toNat*3)).block,(ad479.add ((x4_1).toNat*3)).off+1,none⟩=some (.int .i64 ((rd_T64 l0 x4_1).f1))∧w'.cell? ⟨(ad479.add ((x4_1).toNat*3)).block,(ad479.add ((x4_1).toNat*3)).off+2,none⟩=some (.int .i64 ((rd_T64 l0 x4_1).f2))) (ds:=[]) _ (by kernel_rfl) rfl rfl ⟨((HB.out.cell (World.block_lt_of_cell? w _ hw479_0)).trans hw479_0),((HB.out.cell (World.block_lt_of_cell? w _ hw479_1)).trans hw479_1),((HB.out.cell (World.block_lt_of_cell? w _ hw479_2)).trans hw479_2),((HB.out.cell (World.block_lt_of_cell? w _ hw480_0)).trans hw480_0),((HB.out.cell (World.block_lt_of_cell? w _ hw480_1)).trans hw480_1),((HB.out.cell (World.block_lt_of_cell? w _ hw480_2)).trans hw480_2),((HB.out.cell (World.block_lt_of_cell? w _ hw481_0)).trans hw481_0),((HB.out.cell (World.block_lt_of_cell? w _ hw481_1)).trans hw481_1),((HB.out.cell (World.block_lt_of_cell? w _ hw481_2)).trans hw481_2)⟩ (fun hH=>?_);refine with_tabW Rf_FormatLayers.tab7 Rf_FormatLayers.bits7 (fun HT_ HW_=>?_);generalize wr.drew=w8 at HB hx479_0 hx479_1 hx479_2 hx480_0 hx480_1 hx480_2 hx481_0 hx481_1 hx481_2 hH ⊢;refine pZ 0 (some 15) (bs 20 1) HT_ ?_;refine pZ 1 (some 16) (bs 20 3) HT_ ?_;refine pZ 2 (some 17) (bs 20 7) HT_ ?_;refine pZ 3 (some 18) (bs 20 15) HT_ ?_;refine pZ 4 (some 19) (bs 20 31) HT_ ?_;refine pZ 6 (some 21) (bs 20 95) HT_ ?_;refine pZ 7 (some 22) (bs 20 223) HT_ ?_;refine pZ 8 (some 23) (bs 20 479) HT_ ?_;refine pZ 9 (some 24) (bs 20 991) HT_ ?_;refine pZ 11 (some 26) (bs 20 3039) HT_ ?_;refine pZ 12 (some 27) (bs 20 7135) HT_ ?_;refine pZ 13 (some 28) (bs 20 15327) HT_ ?_;refine pZ 14 (some 29) (bs 20 31711) HT_ ?_;refine takeZ 5 (some 20) (bs 20 31743) (tw HT_ HW_) hH ?_;refine takeZ 10 (some 25) (bs 20 32767) (tw HT_ HW_) hH ?_;refine takeZ 15 (some 30) (bs 20 65535) (tw HT_ HW_) hH ?_;refine oneZ 16 (some 31) (bs 20 131071) (o1 HT_) fun K hK=>?_;refine Kd.R_lit_step (Kd.int .i64) _ 3 ?hg (N:=31) ?hd (xs:=([(rd_T64 l0 x4_1).f0,(rd_T64 l0 x4_1).f1,(rd_T64 l0 x4_1).f2]:List Int)) (inner:=[.int .i64 ((rd_T64 l0 x4_1).f0),.int .i64 ((rd_T64 l0 x4_1).f1),.int .i64 ((rd_T64 l0 x4_1).f2)]) (ok:=fun _=>True) (okp:=fun _=>True) ?hr ?hp (fun _ hk=>hk) trivial (Below.refl _ _) (Nat.le_refl _) (by simp) ?_;(case hd=>rfl);(case hg=>rfl);(case hr=>first|(go_simp;done)|(go_simp;rfl));(case hp=>exact(Reps.one (ki ((rd_T64 l0 x4_1).f0)) (Reps.one (ki ((rd_T64 l0 x4_1).f1)) (Reps.one (ki ((rd_T64 l0 x4_1).f2)) (Reps.none _ _)))))
        intro v483 w9 ho10 hb hg_ hnew_;clear hg_ hnew_
        (first|rw[← Ny482.out]at ho10|(simp only[Int.reduceToNat]at ho10;rw[← Ny482.out]at ho10))
        have HO484:=m0 (Kd.R_lower ho10 (below_size bz));replace HB:=sb HB hb;clear hb ho10;obtain⟨Ao11,co11,eo11⟩:=Kd.R_slice HO484.out;subst eo11;refine hK.out _ _ ⟨((HB.out.cell (World.block_lt_of_cell? w _ hw479_0)).trans hw479_0),((HB.out.cell (World.block_lt_of_cell? w _ hw479_1)).trans hw479_1),((HB.out.cell (World.block_lt_of_cell? w _ hw479_2)).trans hw479_2),((HB.out.cell (World.block_lt_of_cell? w _ hw480_0)).trans hw480_0),((HB.out.cell (World.block_lt_of_cell? w _ hw480_1)).trans hw480_1),((HB.out.cell (World.block_lt_of_cell? w _ hw480_2)).trans hw480_2),((HB.out.cell (World.block_lt_of_cell? w _ hw481_0)).trans hw481_0),((HB.out.cell (World.block_lt_of_cell? w _ hw481_1)).trans hw481_1),((HB.out.cell (World.block_lt_of_cell? w _ hw481_2)).trans hw481_2)⟩ (fun hH=>?_);clear hK K;refine nz 31 ?_;refine oneZ 17 (some 32) (bs 20 262143) (o1 HT_) fun K hK=>?_;refine gz Tryz.func36 #[.slice Ao11 y482.length co11] ?_
        with_reducible refine(Rf_words.calls k1 _ _ y482 t485 _ ?side1 ?side2 A6.out).mono ?_
        (case side1=>exact bc (Kd.R_reads' HO484.out).2.2)
        (case side2=>exact(Kd.R_reads' HO484.out).2.1)
        rintro e w12 ⟨rfl,hb⟩;refine⟨_,rfl,?_⟩;replace HO484:=rb HO484 hb;replace HB:=sb HB hb;(try clear hb);refine hK.out _ _ ⟨((HB.out.cell (World.block_lt_of_cell? w _ hw479_0)).trans hw479_0),((HB.out.cell (World.block_lt_of_cell? w _ hw479_1)).trans hw479_1),((HB.out.cell (World.block_lt_of_cell? w _ hw479_2)).trans hw479_2),((HB.out.cell (World.block_lt_of_cell? w _ hw480_0)).trans hw480_0),((HB.out.cell (World.block_lt_of_cell? w _ hw480_1)).trans hw480_1),((HB.out.cell (World.block_lt_of_cell? w _ hw480_2)).trans hw480_2),((HB.out.cell (World.block_lt_of_cell? w _ hw481_0)).trans hw481_0),((HB.out.cell (World.block_lt_of_cell? w _ hw481_1)).trans hw481_1),((HB.out.cell (World.block_lt_of_cell? w _ hw481_2)).trans hw481_2)⟩ (fun hH=>?_);clear hK K;refine nz 32 ?_;refine pZ 18 (some 33) (bs 20 524287) HT_ ?_;refine pZ 19 (some 3) (bs 20 1048575) HT_ ?_;refine done_ (done_of HT_.out (by kernel_rfl)) ?_
        try go_wp2
        go_roundg k1
        case measure=>have:=HK1.out;omega
        case rel=>exact⟨((x3_1++(⟨#[59]⟩:ByteArray))++t485),(wrap64 (x4_1+1)),rz,rz,H',⟨by have:=HK1.out;omega⟩,⟨bz⟩⟩
       ·rw [if_neg c7]at H;exact absurd H (by simp)
      ·rw [if_neg c5]at H;exact absurd H (by simp)
     ·rw [if_neg c4]at H;exact absurd H (by simp)
    ·rw [if_neg c3]at H;have c3b0:=decide_eq_false c3;clear c3
     by_cases c13:0≤x4_1
     ·rw [if_pos c13]at H;have c13b0:=decide_eq_true c13;clear c13;obtain⟨y489,hy489⟩:∃ y_:List Int,y_=(([(rd_T64 l0 x4_1).f0,(rd_T64 l0 x4_1).f1,(rd_T64 l0 x4_1).f2]:List Int)):=⟨_,rfl⟩;replace H:((Rf_words.f k1 y489).bind fun t492=>(if x3_1.size+t492.size≤9223372036854775807 then(Rf_FormatLayers.l0 k1 l0 (x3_1++t492) (wrap64 (x4_1+1)))else(none)))=some r:=hq hy489 H
      have Ny489:=m0 hy489;clear hy489;replace H:=oa H;obtain⟨t492,A14,H⟩:=H;(try dsimp only at H)
      by_cases c15:x3_1.size+t492.size≤9223372036854775807
      ·rw [if_pos c15]at H;have c15b0:=eq_true c15;have c15b1:=decide_eq_true c15
       try have c15b2:(9223372036854775807<x3_1.size+t492.size)=False:=eq_false (Nat.not_lt.2 c15)
       have H':=m0 H;clear H
       try go_wp2
       replace HB:=sd HB;have p486:0≤(x4_1:Int):=od;have q486:x4_1<(l0.length:Int):=od;obtain⟨ad486,e486,hx486_0,hx486_1,hx486_2⟩:=at_T64 HR0.out x4_1 p486 q486;have hw486_2:=hx486_2;have hw486_1:=hx486_1;have hw486_0:=hx486_0
       cases e486
       replace hx486_0:=hc HB hx486_0;replace hx486_1:=hc HB hx486_1;replace hx486_2:=hc HB hx486_2;replace p486:=eq_true p486;replace q486:=eq_true q486;have p487:0≤(x4_1:Int):=od;have q487:x4_1<(l0.length:Int):=od;obtain⟨ad487,e487,hx487_0,hx487_1,hx487_2⟩:=at_T64 HR0.out x4_1 p487 q487;have hw487_2:=hx487_2;have hw487_1:=hx487_1;have hw487_0:=hx487_0;obtain rfl:ad486=ad487:=(by injection e487);replace hx487_0:=hc HB hx487_0;replace hx487_1:=hc HB hx487_1;replace hx487_2:=hc HB hx487_2;replace p487:=eq_true p487;replace q487:=eq_true q487;have p488:0≤(x4_1:Int):=od;have q488:x4_1<(l0.length:Int):=od;obtain⟨ad488,e488,hx488_0,hx488_1,hx488_2⟩:=at_T64 HR0.out x4_1 p488 q488;have hw488_2:=hx488_2;have hw488_1:=hx488_1;have hw488_0:=hx488_0;obtain rfl:ad486=ad488:=(by injection e488);replace hx488_0:=hc HB hx488_0;replace hx488_1:=hc HB hx488_1;replace hx488_2:=hc HB hx488_2;replace p488:=eq_true p488;replace q488:=eq_true q488;refine start_ (n:=20) (S:=fun w'=>w'.cell? (ad486.add ((x4_1).toNat*3))=some (.int .i64 ((rd_T64 l0 x4_1).f0))∧w'.cell? ⟨(ad486.add ((x4_1).toNat*3)).block,(ad486.add ((x4_1).toNat*3)).off+1,none⟩=some (.int .i64 ((rd_T64 l0 x4_1).f1))∧w'.cell? ⟨(ad486.add ((x4_1).toNat*3)).block,(ad486.add ((x4_1).toNat*3)).off+2,none⟩=some (.int .i64 ((rd_T64 l0 x4_1).f2))∧w'.cell? (ad486.add ((x4_1).toNat*3))=some (.int .i64 ((rd_T64 l0 x4_1).f0))∧w'.cell? ⟨(ad486.add ((x4_1).toNat*3)).block,(ad486.add ((x4_1).toNat*3)).off+1,none⟩=some (.int .i64 ((rd_T64 l0 x4_1).f1))∧w'.cell? ⟨(ad486.add ((x4_1).toNat*3)).block,(ad486.add ((x4_1).toNat*3)).off+2,none⟩=some (.int .i64 ((rd_T64 l0 x4_1).f2))∧w'.cell? (ad486.add ((x4_1).toNat*3))=some (.int .i64 ((rd_T64 l0 x4_1).f0))∧w'.cell? ⟨(ad486.add ((x4_1).toNat*3)).block,(ad486.add ((x4_1).toNat*3)).off+1,none⟩=some (.int .i64 ((rd_T64 l0 x4_1).f1))∧w'.cell? ⟨(ad486.add ((x4_1).toNat*3)).block,(ad486.add ((x4_1).toNat*3)).off+2,none⟩=some (.int .i64 ((rd_T64 l0 x4_1).f2))) (ds:=[]) _ (by kernel_rfl) rfl rfl ⟨((HB.out.cell (World.block_lt_of_cell? w _ hw486_0)).trans hw486_0),((HB.out.cell (World.block_lt_of_cell? w _ hw486_1)).trans hw486_1),((HB.out.cell (World.block_lt_of_cell? w _ hw486_2)).trans hw486_2),((HB.out.cell (World.block_lt_of_cell? w _ hw487_0)).trans hw487_0),((HB.out.cell (World.block_lt_of_cell? w _ hw487_1)).trans hw487_1),((HB.out.cell (World.block_lt_of_cell? w _ hw487_2)).trans hw487_2),((HB.out.cell (World.block_lt_of_cell? w _ hw488_0)).trans hw488_0),((HB.out.cell (World.block_lt_of_cell? w _ hw488_1)).trans hw488_1),((HB.out.cell (World.block_lt_of_cell? w _ hw488_2)).trans hw488_2)⟩ (fun hH=>?_);refine with_tabW Rf_FormatLayers.tab7 Rf_FormatLayers.bits7 (fun HT_ HW_=>?_);generalize wr.drew=w16 at HB hx486_0 hx486_1 hx486_2 hx487_0 hx487_1 hx487_2 hx488_0 hx488_1 hx488_2 hH ⊢;refine pZ 0 (some 15) (bs 20 1) HT_ ?_;refine pZ 1 (some 16) (bs 20 3) HT_ ?_;refine pZ 2 (some 17) (bs 20 7) HT_ ?_;refine pZ 3 (some 18) (bs 20 15) HT_ ?_;refine pZ 4 (some 19) (bs 20 31) HT_ ?_;refine pZ 6 (some 21) (bs 20 95) HT_ ?_;refine pZ 7 (some 22) (bs 20 223) HT_ ?_;refine pZ 8 (some 23) (bs 20 479) HT_ ?_;refine pZ 9 (some 24) (bs 20 991) HT_ ?_;refine pZ 11 (some 26) (bs 20 3039) HT_ ?_;refine pZ 12 (some 27) (bs 20 7135) HT_ ?_;refine pZ 13 (some 28) (bs 20 15327) HT_ ?_;refine pZ 14 (some 29) (bs 20 31711) HT_ ?_;refine takeZ 5 (some 20) (bs 20 31743) (tw HT_ HW_) hH ?_;refine takeZ 10 (some 25) (bs 20 32767) (tw HT_ HW_) hH ?_;refine takeZ 15 (some 30) (bs 20 65535) (tw HT_ HW_) hH ?_;refine oneZ 16 (some 31) (bs 20 131071) (o1 HT_) fun K hK=>?_;refine Kd.R_lit_step (Kd.int .i64) _ 3 ?hg (N:=31) ?hd (xs:=([(rd_T64 l0 x4_1).f0,(rd_T64 l0 x4_1).f1,(rd_T64 l0 x4_1).f2]:List Int)) (inner:=[.int .i64 ((rd_T64 l0 x4_1).f0),.int .i64 ((rd_T64 l0 x4_1).f1),.int .i64 ((rd_T64 l0 x4_1).f2)]) (ok:=fun _=>True) (okp:=fun _=>True) ?hr ?hp (fun _ hk=>hk) trivial (Below.refl _ _) (Nat.le_refl _) (by simp) ?_;(case hd=>rfl);(case hg=>rfl);(case hr=>first|(go_simp;done)|(go_simp;rfl));(case hp=>exact(Reps.one (ki ((rd_T64 l0 x4_1).f0)) (Reps.one (ki ((rd_T64 l0 x4_1).f1)) (Reps.one (ki ((rd_T64 l0 x4_1).f2)) (Reps.none _ _)))))
       intro v490 w17 ho18 hb hg_ hnew_;clear hg_ hnew_
       (first|rw[← Ny489.out]at ho18|(simp only[Int.reduceToNat]at ho18;rw[← Ny489.out]at ho18))
       have HO491:=m0 (Kd.R_lower ho18 (below_size bz));replace HB:=sb HB hb;clear hb ho18;obtain⟨Ao19,co19,eo19⟩:=Kd.R_slice HO491.out;subst eo19;refine hK.out _ _ ⟨((HB.out.cell (World.block_lt_of_cell? w _ hw486_0)).trans hw486_0),((HB.out.cell (World.block_lt_of_cell? w _ hw486_1)).trans hw486_1),((HB.out.cell (World.block_lt_of_cell? w _ hw486_2)).trans hw486_2),((HB.out.cell (World.block_lt_of_cell? w _ hw487_0)).trans hw487_0),((HB.out.cell (World.block_lt_of_cell? w _ hw487_1)).trans hw487_1),((HB.out.cell (World.block_lt_of_cell? w _ hw487_2)).trans hw487_2),((HB.out.cell (World.block_lt_of_cell? w _ hw488_0)).trans hw488_0),((HB.out.cell (World.block_lt_of_cell? w _ hw488_1)).trans hw488_1),((HB.out.cell (World.block_lt_of_cell? w _ hw488_2)).trans hw488_2)⟩ (fun hH=>?_);clear hK K;refine nz 31 ?_;refine oneZ 17 (some 32) (bs 20 262143) (o1 HT_) fun K hK=>?_;refine gz Tryz.func36 #[.slice Ao19 y489.length co19] ?_
       with_reducible refine(Rf_words.calls k1 _ _ y489 t492 _ ?side1 ?side2 A14.out).mono ?_
       (case side1=>exact bc (Kd.R_reads' HO491.out).2.2)
       (case side2=>exact(Kd.R_reads' HO491.out).2.1)
       rintro e w20 ⟨rfl,hb⟩;refine⟨_,rfl,?_⟩;replace HO491:=rb HO491 hb;replace HB:=sb HB hb;(try clear hb);refine hK.out _ _ ⟨((HB.out.cell (World.block_lt_of_cell? w _ hw486_0)).trans hw486_0),((HB.out.cell (World.block_lt_of_cell? w _ hw486_1)).trans hw486_1),((HB.out.cell (World.block_lt_of_cell? w _ hw486_2)).trans hw486_2),((HB.out.cell (World.block_lt_of_cell? w _ hw487_0)).trans hw487_0),((HB.out.cell (World.block_lt_of_cell? w _ hw487_1)).trans hw487_1),((HB.out.cell (World.block_lt_of_cell? w _ hw487_2)).trans hw487_2),((HB.out.cell (World.block_lt_of_cell? w _ hw488_0)).trans hw488_0),((HB.out.cell (World.block_lt_of_cell? w _ hw488_1)).trans hw488_1),((HB.out.cell (World.block_lt_of_cell? w _ hw488_2)).trans hw488_2)⟩ (fun hH=>?_);clear hK K;refine nz 32 ?_;refine pZ 18 (some 33) (bs 20 524287) HT_ ?_;refine pZ 19 (some 3) (bs 20 1048575) HT_ ?_;refine done_ (done_of HT_.out (by kernel_rfl)) ?_
       try go_wp2
       go_roundg k1
       case measure=>have:=HK1.out;omega
       case rel=>exact⟨(x3_1++t492),(wrap64 (x4_1+1)),rz,rz,H',⟨by have:=HK1.out;omega⟩,⟨bz⟩⟩
      ·rw [if_neg c15]at H;exact absurd H (by simp)
     ·rw [if_neg c13]at H;exact absurd H (by simp)
   ·rw [if_neg c2]at H;have c2b0:=decide_eq_false c2;clear c2;obtain rfl:=Option.some.inj H
    go_wp2
    go_ret
    exact ez
end
section
theorem eqA64 (d:Nat) (w:World) (x0 y0:Int) (x1 y1:Int) (x2 y2:Int):
  (Op.equalIn (d+2) 64 (.agg #[.int .i64 x0,.int .i64 x1,.int .i64 x2]) (.agg #[.int .i64 y0,.int .i64 y1,.int .i64 y2])).run Tryz.prog w= .ok (x0==y0 && (x1==y1 && (x2==y2))) w:=by
 refine eqA_of Tryz.underlying64 (by kernel_rfl) ?_;refine eqf_cons (by rfl) (by go_simp;rfl) (by go_simp;rfl) (by go_simp) ?_;refine eqf_cons (by rfl) (by go_simp;rfl) (by go_simp;rfl) (by go_simp) ?_;exact eqf_last (by rfl) (by go_simp;rfl) (by go_simp;rfl) (by go_simp)
end
section
attribute [local go_sem high] eqA64
def Rf_SameLayers.l0:Nat→List (S64)→List (S64)→Int→Option (Bool)
 |0,_,_,_=>none
 |k+1,x0,x1,x5=>if x5<(x0.length:Int)then(if 0≤x5 then(if x5<(x1.length:Int)then(if(!(((rd_T64 x0 x5).f0)==((rd_T64 x1 x5).f0)) || (!(((rd_T64 x0 x5).f1)==((rd_T64 x1 x5).f1)) || (!(((rd_T64 x0 x5).f2)==((rd_T64 x1 x5).f2)))))=true then(some false)else(Rf_SameLayers.l0 k x0 x1 (wrap64 (x5+1))))else(none))else(none))else(some true)
def Rf_SameLayers.f (k:Nat) (l0:List (S64)) (l1:List (S64)):Option (Bool):=if(l0.length:Int)=(l1.length:Int)then(Rf_SameLayers.l0 k l0 l1 0)else(some false)
theorem Rf_SameLayers.mono_l:∀ k,(∀ y0 y1 y2,LeO (Rf_SameLayers.l0 k y0 y1 y2) (Rf_SameLayers.l0 (k+1) y0 y1 y2))
 |0=>fun _ _ _ r h=>by simp[Rf_SameLayers.l0]at h
 | k+1=>by
  have ih0:=Rf_SameLayers.mono_l k
  ·intro y0 y1 y2;unfold Rf_SameLayers.l0
   exact lz
theorem Rf_SameLayers.mono:∀ a0 a1 k,LeO (Rf_SameLayers.f k a0 a1) (Rf_SameLayers.f (k+1) a0 a1):=by
 intro a0 a1 k;have ih0:=Rf_SameLayers.mono_l k;unfold Rf_SameLayers.f
 exact lz
theorem Rf_SameLayers.calls (k:Nat) (A0:Option Addr) (c0:Nat) (l0:List (S64)) (A1:Option Addr) (c1:Nat) (l1:List (S64)) (r:Bool) (w:World) (hr0:Kd.C k64 w A0 l0.length l0) (hc0:l0.length≤c0) (hr1:Kd.C k64 w A1 l1.length l1) (hc1:l1.length≤c1) (H:Rf_SameLayers.f k l0 l1=some r):
  Calls Tryz.prog 17 #[.slice A0 l0.length c0,.slice A1 l1.length c1] w fun e w'=>e= .returned (.bool r)∧Drawn0 w w':=by
 have hu64:=Tryz.underlying64;have HR0:=m0 hr0;have HC0:=m0 hc0;clear hr0 hc0;have HR1:=m0 hr1;have HC1:=m0 hc1;clear hr1 hc1;unfold Rf_SameLayers.f at H
 by_cases c3:(l0.length:Int)=(l1.length:Int)
 ·rw [if_pos c3]at H;have c3b0:=beq_iff_eq.mpr c3;have c3b1:=bne_eq_false_iff_eq.mpr c3;have c3b2:(l0.length==l1.length)=true:=by first|simpa using c3|(simp at c3 ⊢;omega)
  clear c3;have H':=m0 H;clear H;go_enter Tryz.func17,Tryz.ntmps17
  go_wp2
  repeat(go_quiet (fail);try go_wp2)
  go_loopg [5] k (fun kq v5 w'=>∃ (x5_1:Int),v5= .int .i64 x5_1∧Aside0 (Rf_SameLayers.l0 kq l0 l1 x5_1=some r)∧Aside0 (kq≤k)∧Drawn0 w w')
  case atStart=>exact⟨(0),rz,H',⟨Nat.le_refl _⟩,dz⟩
  case round=>
   clear H';obtain⟨x5_1,rfl,HA,HK1,⟨m1,rfl⟩⟩:=hrel
   cases gk with
   |zero=>exact absurd HA.out (by simp[Rf_SameLayers.l0])
   | succ k1=>
    have H:=HA.out;clear HA;simp only[Rf_SameLayers.l0]at H
    by_cases c4:x5_1<(l0.length:Int)
    ·rw [if_pos c4]at H;have c4b0:=decide_eq_true c4;clear c4
     by_cases c5:0≤x5_1
     ·rw [if_pos c5]at H;have c5b0:=decide_eq_true c5;clear c5
      by_cases c6:x5_1<(l1.length:Int)
      ·rw [if_pos c6]at H;have c6b0:=decide_eq_true c6;clear c6;have p493:0≤(x5_1:Int):=od;have q493:x5_1<(l0.length:Int):=od;obtain⟨ad493,e493,hx493_0,hx493_1,hx493_2⟩:=at_T64 HR0.out x5_1 p493 q493
       cases e493
       replace p493:=eq_true p493;replace q493:=eq_true q493;have p494:0≤(x5_1:Int):=od;have q494:x5_1<(l1.length:Int):=od;obtain⟨ad494,e494,hx494_0,hx494_1,hx494_2⟩:=at_T64 HR1.out x5_1 p494 q494
       cases e494
       replace p494:=eq_true p494;replace q494:=eq_true q494
       by_cases c7:(!(((rd_T64 l0 x5_1).f0)==((rd_T64 l1 x5_1).f0)) || (!(((rd_T64 l0 x5_1).f1)==((rd_T64 l1 x5_1).f1)) || (!(((rd_T64 l0 x5_1).f2)==((rd_T64 l1 x5_1).f2)))))=true
       ·rw [if_pos c7]at H;have c7b0:(!(((rd_T64 l0 x5_1).f0)==((rd_T64 l1 x5_1).f0)) || (!(((rd_T64 l0 x5_1).f1)==((rd_T64 l1 x5_1).f1)) || (!(((rd_T64 l0 x5_1).f2)==((rd_T64 l1 x5_1).f2)))))=true:=c7;clear c7;obtain rfl:=Option.some.inj H
        go_wp2
        repeat(go_quiet (fail);try go_wp2)
        go_ret
        exact⟨rz,dz⟩
       ·rw [if_neg c7]at H;have c7b0:(!(((rd_T64 l0 x5_1).f0)==((rd_T64 l1 x5_1).f0)) || (!(((rd_T64 l0 x5_1).f1)==((rd_T64 l1 x5_1).f1)) || (!(((rd_T64 l0 x5_1).f2)==((rd_T64 l1 x5_1).f2)))))=false:=by simpa using c7
        clear c7;have H':=m0 H;clear H
        go_wp2
        repeat(go_quiet (fail);try go_wp2)
        go_roundg k1
        case measure=>have:=HK1.out;omega
        case rel=>exact⟨(wrap64 (x5_1+1)),rz,H',⟨by have:=HK1.out;omega⟩,dz⟩
      ·rw [if_neg c6]at H;exact absurd H (by simp)
     ·rw [if_neg c5]at H;exact absurd H (by simp)
    ·rw [if_neg c4]at H;have c4b0:=decide_eq_false c4;clear c4;obtain rfl:=Option.some.inj H
     go_wp2
     repeat(go_quiet (fail);try go_wp2)
     go_ret
     exact⟨rz,dz⟩
 ·rw [if_neg c3]at H;have c3b0:=beq_eq_false_iff_ne.mpr c3;have c3b1:=bne_iff_ne.mpr c3;have c3b2:(l0.length==l1.length)=false:=by first|simpa using c3|(simp at c3 ⊢;omega)
  obtain rfl:=Option.some.inj H;go_enter Tryz.func17,Tryz.ntmps17
  go_wp2
  repeat(go_quiet (fail);try go_wp2)
  go_ret
  exact⟨rz,dz⟩
end
end Go.Proofs.YteiafijbgjgiaaaGreatDoor.A
