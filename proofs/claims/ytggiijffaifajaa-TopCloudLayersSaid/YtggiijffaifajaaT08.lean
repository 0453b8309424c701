/- Walks of the program's functions (printed, made shorter), each with what it computes. -/
import Derived.Test.YtggiijffaifajaaT07
namespace Go.Proofs.Ytggiijffaifajaa.A
set_option maxHeartbeats 8000000
set_option maxRecDepth 100000
open Go.RowKit Go.Proofs.YtggiijffaifajaaW.PrintWords Go.Proofs.YtggiijffaifajaaW.PrintLast Go.Proofs.YtggiijffaifajaaW.PrintMore
attribute [local go_sem] max2_int min2_int max_two min_two max_three min_three max_four min_four
set_option linter.unusedVariables false
set_option linter.unusedSimpArgs false
section
mutual
def api_CloudLayer_CeilingOf_1_108.l0:Nat→List (S42)→Int→Int→Int→Int→Option ((List (S42)))
  |0,_,_,_,_,_=>none
  |k+1,x0,x1,x6,x7,x8=>if x8≤x1 then((api_CloudLayer_CeilingOf_1_107.f k x0 x7 x8).bind fun t142=>(api_CloudLayer_CeilingOf_1_108.l0 k t142 x1 x6 x8 (wrap64 (x8+x6))))else((api_CloudLayer_CeilingOf_1_107.f k x0 x7 x1).bind fun t143=>(api_CloudLayer_CeilingOf_1_108.l1 k t143 x1 x6))
def api_CloudLayer_CeilingOf_1_108.l1:Nat→List (S42)→Int→Int→Option ((List (S42)))
  |0,_,_,_=>none
  |k+1,x0,x1,x6=>if x6<x1 then(api_CloudLayer_CeilingOf_1_108.l2 k x0 x1 x6 0 (wrap64 (2*x6)))else(some x0)
def api_CloudLayer_CeilingOf_1_108.l2:Nat→List (S42)→Int→Int→Int→Int→Option ((List (S42)))
  |0,_,_,_,_,_=>none
  |k+1,x0,x1,x6,x7,x8=>if x8≤x1 then(none)else(if(wrap64 (x7+x6))<x1 then(none)else(api_CloudLayer_CeilingOf_1_108.l1 k x0 x1 (wrap64 (x6*2))))
end
def api_CloudLayer_CeilingOf_1_108.f (k:Nat) (l0:List (S42)) (a1:Int)  :Option ((List (S42))):=api_CloudLayer_CeilingOf_1_108.l0 k l0 a1 20 0 20
theorem api_CloudLayer_CeilingOf_1_108.mono_l:∀ k,(∀ y0 y1 y2 y3 y4,LeO (api_CloudLayer_CeilingOf_1_108.l0 k y0 y1 y2 y3 y4) (api_CloudLayer_CeilingOf_1_108.l0 (k+1) y0 y1 y2 y3 y4))∧(∀ y0 y1 y2,LeO (api_CloudLayer_CeilingOf_1_108.l1 k y0 y1 y2) (api_CloudLayer_CeilingOf_1_108.l1 (k+1) y0 y1 y2))∧(∀ y0 y1 y2 y3 y4,LeO (api_CloudLayer_CeilingOf_1_108.l2 k y0 y1 y2 y3 y4) (api_CloudLayer_CeilingOf_1_108.l2 (k+1) y0 y1 y2 y3 y4))
  |0=>⟨fun _ _ _ _ _ r h=>by simp[api_CloudLayer_CeilingOf_1_108.l0]at h,fun _ _ _ r h=>by simp[api_CloudLayer_CeilingOf_1_108.l1]at h,fun _ _ _ _ _ r h=>by simp[api_CloudLayer_CeilingOf_1_108.l2]at h⟩
  | k + 1=>by
    obtain⟨ih0,ih1,ih2⟩:=api_CloudLayer_CeilingOf_1_108.mono_l k;refine⟨?_,?_,?_⟩
    · intro y0 y1 y2 y3 y4;unfold api_CloudLayer_CeilingOf_1_108.l0
      repeat' with_reducible first
        |exact ih0 ..
        |exact ih1 ..
        |exact ih2 ..
        |exact api_CloudLayer_CeilingOf_1_107.mono ..
        |exact LeO.refl ..
        |exact LeO.none ..
        |refine LeO.ite ?_ ?_
        |refine LeO.bind ?_ (fun _=>?_)
    · intro y0 y1 y2;unfold api_CloudLayer_CeilingOf_1_108.l1
      repeat' with_reducible first
        |exact ih0 ..
        |exact ih1 ..
        |exact ih2 ..
        |exact api_CloudLayer_CeilingOf_1_107.mono ..
        |exact LeO.refl ..
        |exact LeO.none ..
        |refine LeO.ite ?_ ?_
        |refine LeO.bind ?_ (fun _=>?_)
    · intro y0 y1 y2 y3 y4;unfold api_CloudLayer_CeilingOf_1_108.l2
      repeat' with_reducible first
        |exact ih0 ..
        |exact ih1 ..
        |exact ih2 ..
        |exact api_CloudLayer_CeilingOf_1_107.mono ..
        |exact LeO.refl ..
        |exact LeO.none ..
        |refine LeO.ite ?_ ?_
        |refine LeO.bind ?_ (fun _=>?_)
theorem api_CloudLayer_CeilingOf_1_108.mono:∀ a0 a1 k,LeO (api_CloudLayer_CeilingOf_1_108.f k a0 a1) (api_CloudLayer_CeilingOf_1_108.f (k+1) a0 a1):=by
  intro a0 a1 k;obtain⟨ih0,ih1,ih2⟩:=api_CloudLayer_CeilingOf_1_108.mono_l k;unfold api_CloudLayer_CeilingOf_1_108.f
  repeat' with_reducible first
    |exact ih0 ..
    |exact ih1 ..
    |exact ih2 ..
    |exact api_CloudLayer_CeilingOf_1_107.mono ..
    |exact LeO.refl ..
    |exact LeO.none ..
    |refine LeO.ite ?_ ?_
    |refine LeO.bind ?_ (fun _=>?_)
theorem api_CloudLayer_CeilingOf_1_108.calls (k:Nat) (P0_:Nat→Prop) (u9000_:Value) (l0:List (S42)) (a1:Int)  (r:List (S42)) (w0 w:World) (hB:Below w0.heap.size w0 w) (ho0:Kd.R k42 42 w w0.heap.size P0_ u9000_ l0) (H:api_CloudLayer_CeilingOf_1_108.f k l0 a1=some r):
    Calls Try.prog 61 #[u9000_,.int .i64 a1,.func (.func 30) #[] #[]] w fun e w'=>e= .returned (.tuple #[])∧Kd.R k42 42 w' w0.heap.size (fun k_=>(P0_ k_∨w.heap.size≤k_)) u9000_ r∧Below w0.heap.size w0 w'∧Kept w w' (fun k_=>P0_ k_):=by
  have HO0:=m0 (show Kd.R k42 42 w w0.heap.size (fun k_=>(P0_ k_∨w.heap.size≤k_)) u9000_ l0 from Kd.R_mono ho0 (fun k_ hk=>(.inl hk)));have HK:=m0 (Kept.refl w (fun k_=>P0_ k_));have HW0:=m0 hB.size;have HB:=m0 hB;clear hB;unfold api_CloudLayer_CeilingOf_1_108.f at H;have H':=m0 H;clear H;go_enter Try.func61,Try.ntmps61
  go_wp2
  (try simp only[Act.put,List.setIfInBounds_toArray,List.set_cons_zero,List.set_cons_succ])
  go_loopg [7,8] k (fun kq v7 v8 w'=>∃ (x0_1:List (S42)) (x7_1:Int) (x8_1:Int),v7= .int .i64 x7_1∧v8= .int .i64 x8_1∧Aside0 (api_CloudLayer_CeilingOf_1_108.l0 kq x0_1 a1 20 x7_1 x8_1=some r)∧Aside0 (kq≤k)∧Aside0 (Kd.R k42 42 w' w0.heap.size (fun k_=>(P0_ k_∨w.heap.size≤k_)) u9000_ x0_1)∧Aside0 (Kept w w' (fun k_=>P0_ k_))∧Aside0 (Below w0.heap.size w0 w'))
  case atStart=>exact⟨(l0),(0),(20),rz,rz,H',⟨Nat.le_refl _⟩,⟨br HO0.out⟩,⟨by repeat(first|(with_reducible first|exact HK.out|apply Kept.alloc|apply Kept.drewN|apply Kept.drew)|exact HK.out)⟩,⟨bz⟩⟩
  case round =>
    clear H';obtain⟨x0_1,x7_1,x8_1,rfl,rfl,HA,HK1,HO_0,HK,HB⟩:=hrel
    cases gk with
    |zero=>exact absurd HA.out (by simp[api_CloudLayer_CeilingOf_1_108.l0])
    | succ k1 =>
      have H:=HA.out;clear HA;simp only[api_CloudLayer_CeilingOf_1_108.l0]at H
      by_cases c4:x8_1≤a1
      · rw[if_pos c4]at H;have c4b0:=decide_eq_true c4;clear c4;replace H:=oa H;obtain⟨t142,A5,H⟩:=H;(try dsimp only at H);have H':=m0 H;clear H;obtain⟨Ao6,co6,eo6⟩:=Kd.R_slice HO_0.out;subst eo6
        go_wp2_with (first|((with_reducible refine gc 67 rfl ?_);refine gl (some 18) Try.func67 #[.slice Ao6 x0_1.length co6,.int .i64 x7_1,.int .i64 x8_1,.func (.func 30) #[] #[]] ?_;(with_reducible refine(api_CloudLayer_CeilingOf_1_107.calls k1 (fun k_=>some k_=(.slice Ao6 x0_1.length co6:Value).ownBlock) (.slice Ao6 x0_1.length co6) x0_1 x7_1 x8_1  t142 w0 _ ?side1 ?side2 A5.out).mono ?_);(case side1=>repeat(first|(with_reducible first|exact HB.out|apply below_alloc|apply pw_below_drewN|apply below_drew1)|exact HB.out));(case side2=>exact Kd.R_tight rfl HO_0.out);rintro e w7 ⟨rfl,hy0,hb,hkp⟩;refine⟨_,rfl,?_⟩;replace HK:=m0 (Kept.then_ (S:=(fun k_=>P0_ k_)) (by repeat(first|(with_reducible first|exact HK.out|apply Kept.alloc|apply Kept.drewN|apply Kept.drew)|exact HK.out)) hkp (fun k_ hs_=>(fun e_=>(HO_0.out.1 k_ e_.symm)) hs_));replace HO_0:=m0 (Kd.R_reok rfl hy0 (fun k_ e_=>HO_0.out.1 k_ e_));replace HB:=m0 (hb);(try clear hb);(try clear hkp);(try clear hy0)))
        go_roundg k1
        case measure=>have:=HK1.out;omega
        case rel=>exact⟨(t142),(x8_1),(wrap64 (x8_1+20)),rz,rz,H',⟨by have:=HK1.out;omega⟩,⟨br HO_0.out⟩,⟨by repeat(first|(with_reducible first|exact HK.out|apply Kept.alloc|apply Kept.drewN|apply Kept.drew)|exact HK.out)⟩,⟨bz⟩⟩
      · rw [if_neg c4]at H;have c4b0:=decide_eq_false c4;clear c4;replace H:=oa H;obtain⟨t143,A8,H⟩:=H;(try dsimp only at H);have H':=m0 H;clear H;obtain⟨Ao9,co9,eo9⟩:=Kd.R_slice HO_0.out;subst eo9
        go_wp2_with (first|((with_reducible refine gc 67 rfl ?_);refine gl (some 27) Try.func67 #[.slice Ao9 x0_1.length co9,.int .i64 x7_1,.int .i64 a1,.func (.func 30) #[] #[]] ?_;(with_reducible refine(api_CloudLayer_CeilingOf_1_107.calls k1 (fun k_=>some k_=(.slice Ao9 x0_1.length co9:Value).ownBlock) (.slice Ao9 x0_1.length co9) x0_1 x7_1 a1  t143 w0 _ ?side1 ?side2 A8.out).mono ?_);(case side1=>repeat(first|(with_reducible first|exact HB.out|apply below_alloc|apply pw_below_drewN|apply below_drew1)|exact HB.out));(case side2=>exact Kd.R_tight rfl HO_0.out);rintro e w10 ⟨rfl,hy0,hb,hkp⟩;refine⟨_,rfl,?_⟩;replace HK:=m0 (Kept.then_ (S:=(fun k_=>P0_ k_)) (by repeat(first|(with_reducible first|exact HK.out|apply Kept.alloc|apply Kept.drewN|apply Kept.drew)|exact HK.out)) hkp (fun k_ hs_=>(fun e_=>(HO_0.out.1 k_ e_.symm)) hs_));replace HO_0:=m0 (Kd.R_reok rfl hy0 (fun k_ e_=>HO_0.out.1 k_ e_));replace HB:=m0 (hb);(try clear hb);(try clear hkp);(try clear hy0)))
        (try simp only[Act.put,List.setIfInBounds_toArray,List.set_cons_zero,List.set_cons_succ])
        go_loopg [6] k1 (fun kq v6 w'=>∃ (x6_2:Int),v6= .int .i64 x6_2∧Aside0 (api_CloudLayer_CeilingOf_1_108.l1 kq t143 a1 x6_2=some r)∧Aside0 (kq≤k1)∧Aside0 (Kd.R k42 42 w' w0.heap.size (fun k_=>(P0_ k_∨w.heap.size≤k_)) (.slice Ao9 x0_1.length co9) t143)∧Aside0 (Kept w w' (fun k_=>P0_ k_))∧Aside0 (Below w0.heap.size w0 w'))
        case atStart=>exact⟨(20),rz,H',⟨Nat.le_refl _⟩,⟨br HO_0.out⟩,⟨by repeat(first|(with_reducible first|exact HK.out|apply Kept.alloc|apply Kept.drewN|apply Kept.drew)|exact HK.out)⟩,⟨bz⟩⟩
        case round =>
          clear H';obtain⟨x6_2,rfl,HA,HK2,HO_0,HK,HB⟩:=hrel;have hl0_2:=(Kd.R_reads' HO_0.out).1;rw[hl0_2]at HO_0;(try simp only[hl0_2])
          cases gk with
          |zero=>exact absurd HA.out (by simp[api_CloudLayer_CeilingOf_1_108.l1])
          | succ k2 =>
            have H:=HA.out;clear HA;simp only[api_CloudLayer_CeilingOf_1_108.l1]at H
            by_cases c11:x6_2<a1
            · rw [if_pos c11]at H;have c11b0:=decide_eq_true c11;clear c11;have H':=m0 H;clear H
              go_wp2
              (try simp only[Act.put,List.setIfInBounds_toArray,List.set_cons_zero,List.set_cons_succ])
              go_loopg [7,8] k2 (fun kq v7 v8 w'=>∃ (x7_3:Int) (x8_3:Int),v7= .int .i64 x7_3∧v8= .int .i64 x8_3∧Aside0 (api_CloudLayer_CeilingOf_1_108.l2 kq t143 a1 x6_2 x7_3 x8_3=some r)∧Aside0 (kq≤k2)∧Aside0 (Kd.R k42 42 w' w0.heap.size (fun k_=>(P0_ k_∨w.heap.size≤k_)) (.slice Ao9 t143.length co9) t143)∧Aside0 (Kept w w' (fun k_=>P0_ k_))∧Aside0 (Below w0.heap.size w0 w'))
              case atStart=>exact⟨(0),(wrap64 (2*x6_2)),rz,rz,H',⟨Nat.le_refl _⟩,⟨by (try simp only[hl0_2]);(with_reducible repeat(first|apply Kd.R_alloc|apply Kd.R_drewN|apply Kd.R_drew));exact HO_0.out⟩,⟨by repeat(first|(with_reducible first|exact HK.out|apply Kept.alloc|apply Kept.drewN|apply Kept.drew)|exact HK.out)⟩,⟨bz⟩⟩
              case round=>
                clear H';obtain⟨x7_3,x8_3,rfl,rfl,HA,HK3,HO_0,HK,HB⟩:=hrel
                cases gk with
                |zero=>exact absurd HA.out (by simp[api_CloudLayer_CeilingOf_1_108.l2])
                | succ k3=>
                  have H:=HA.out;clear HA;simp only[api_CloudLayer_CeilingOf_1_108.l2]at H
                  by_cases c12:x8_3≤a1
                  · rw[if_pos c12]at H;exact absurd H (by simp)
                  · rw[if_neg c12]at H;have c12b0:=decide_eq_false c12;clear c12
                    by_cases c13:(wrap64 (x7_3+x6_2))<a1
                    · rw[if_pos c13]at H;exact absurd H (by simp)
                    · rw[if_neg c13]at H;have c13b0:=decide_eq_false c13;clear c13;have H':=m0 H;clear H
                      go_wp2
                      (try simp only[← hl0_2])
                      go_roundg k3
                      case measure=>have:=HK1.out;have:=HK2.out;have:=HK3.out;omega
                      case rel=>exact⟨(wrap64 (x6_2*2)),rz,H',⟨by have:=HK1.out;have:=HK2.out;have:=HK3.out;omega⟩,⟨by (try simp only[hl0_2]);(with_reducible repeat(first|apply Kd.R_alloc|apply Kd.R_drewN|apply Kd.R_drew));exact HO_0.out⟩,⟨by repeat(first|(with_reducible first|exact HK.out|apply Kept.alloc|apply Kept.drewN|apply Kept.drew)|exact HK.out)⟩,⟨bz⟩⟩
            · rw[if_neg c11]at H;have c11b0:=decide_eq_false c11;clear c11;obtain rfl:=Option.some.inj H
              go_wp2
              first|go_end0|((try simp only[Exit.inBlock,Exit.then]);refine bodyPost_ret (results_none rfl _ _ _) rfl ?_)
              exact⟨by first|rfl|(simp[errW_none,errW_some]<;>rfl)|(simp[*,errW_none,errW_some]<;>rfl),(by first|exact(br HO_0.out)|(simp only[hl0_2];exact(br HO_0.out))),by repeat(first|(with_reducible first|exact HB.out|apply below_alloc|apply pw_below_drewN|apply below_drew1)|exact HB.out),by repeat(first|(with_reducible first|exact HK.out|apply Kept.alloc|apply Kept.drewN|apply Kept.drew)|exact HK.out)⟩
end
section
def api_CloudLayer_CeilingOf_1_109.f (k:Nat) (l0:List (S42))  :Option ((List (S42))):=(api_CloudLayer_CeilingOf_1_108.f k l0 (l0.length:Int)).bind fun t144=>(some t144)
theorem api_CloudLayer_CeilingOf_1_109.mono:∀ a0 k,LeO (api_CloudLayer_CeilingOf_1_109.f k a0) (api_CloudLayer_CeilingOf_1_109.f (k+1) a0):=by
 intro a0 k;unfold api_CloudLayer_CeilingOf_1_109.f
 repeat' with_reducible first
  |exact api_CloudLayer_CeilingOf_1_108.mono ..
  |exact LeO.refl ..
  |exact LeO.none ..
  |refine LeO.ite ?_ ?_
  |refine LeO.bind ?_ (fun _=>?_)
theorem api_CloudLayer_CeilingOf_1_109.calls (k:Nat) (P0_:Nat→Prop) (u9000_:Value) (l0:List (S42))  (r:List (S42)) (w0 w:World) (hB:Below w0.heap.size w0 w) (ho0:Kd.R k42 42 w w0.heap.size P0_ u9000_ l0) (H:api_CloudLayer_CeilingOf_1_109.f k l0=some r):
  Calls Try.prog 46 #[u9000_,.func (.func 30) #[] #[]] w fun e w'=>e= .returned (.tuple #[])∧Kd.R k42 42 w' w0.heap.size (fun k_=>(P0_ k_∨w.heap.size≤k_)) u9000_ r∧Below w0.heap.size w0 w'∧Kept w w' (fun k_=>P0_ k_):=by
 have HO0:=m0 (show Kd.R k42 42 w w0.heap.size (fun k_=>(P0_ k_∨w.heap.size≤k_)) u9000_ l0 from Kd.R_mono ho0 (fun k_ hk=>(.inl hk)));have HK:=m0 (Kept.refl w (fun k_=>P0_ k_));have HW0:=m0 hB.size;have HB:=m0 hB;clear hB;unfold api_CloudLayer_CeilingOf_1_109.f at H;replace H:=oa H;obtain⟨t144,A3,H⟩:=H;(try dsimp only at H);obtain rfl:=Option.some.inj H;obtain⟨Ao4,co4,eo4⟩:=Kd.R_slice HO0.out;subst eo4;go_enter Try.func46,Try.ntmps46
 go_wp2_with (first|((with_reducible refine gc 61 rfl ?_);refine gl (some 8) Try.func61 #[.slice Ao4 l0.length co4,.int .i64 (l0.length:Int),.func (.func 30) #[] #[]] ?_;(with_reducible refine(api_CloudLayer_CeilingOf_1_108.calls k (fun k_=>some k_=(.slice Ao4 l0.length co4:Value).ownBlock) (.slice Ao4 l0.length co4) l0 (l0.length:Int)  t144 w0 _ ?side1 ?side2 A3.out).mono ?_);(case side1=>repeat(first|(with_reducible first|exact HB.out|apply below_alloc|apply pw_below_drewN|apply below_drew1)|exact HB.out));(case side2=>exact Kd.R_tight rfl HO0.out);rintro e w5 ⟨rfl,hy0,hb,hkp⟩;refine⟨_,rfl,?_⟩;replace HK:=m0 (Kept.then_ (S:=(fun k_=>P0_ k_)) (by repeat(first|(with_reducible first|exact HK.out|apply Kept.alloc|apply Kept.drewN|apply Kept.drew)|exact HK.out)) hkp (fun k_ hs_=>(fun e_=>(HO0.out.1 k_ e_.symm)) hs_));replace HO0:=m0 (Kd.R_reok rfl hy0 (fun k_ e_=>HO0.out.1 k_ e_));replace HB:=m0 (hb);(try clear hb);(try clear hkp);(try clear hy0)))
 first|go_end0|((try simp only[Exit.inBlock,Exit.then]);refine bodyPost_ret (results_none rfl _ _ _) rfl ?_)
 exact⟨by first|rfl|(simp[errW_none,errW_some]<;>rfl)|(simp[*,errW_none,errW_some]<;>rfl),by(with_reducible repeat(first|apply Kd.R_alloc|apply Kd.R_drewN|apply Kd.R_drew));exact HO0.out,by repeat(first|(with_reducible first|exact HB.out|apply below_alloc|apply pw_below_drewN|apply below_drew1)|exact HB.out),by repeat(first|(with_reducible first|exact HK.out|apply Kept.alloc|apply Kept.drewN|apply Kept.drew)|exact HK.out)⟩
end
section
/-- The layers by their bases, in the order of insertion sort. -/
def L_sorted_layers.f (k:Nat) (l:List S42):Option (List S42):=if l.length<5864062014805 then api_CloudLayer_CeilingOf_1_109.f k l else none
theorem L_sorted_layers.mono:∀ a0 k,LeO (L_sorted_layers.f k a0) (L_sorted_layers.f (k+1) a0):=by
 intro a0 k;unfold L_sorted_layers.f;exact LeO.ite (api_CloudLayer_CeilingOf_1_109.mono _ _) (LeO.none _)
theorem L_sorted_layers.calls (k:Nat) (B:Nat) (A:Option Addr) (c:Nat) (l:List S42) (r:List S42) (w:World) (hbx:w.heap[B]?=some (.cells #[.slice A l.length c] 40 (0,0))) (hr:Kd.C k42 w A l.length l) (hc:l.length≤c) (h:L_sorted_layers.f k l=some r):
  Calls Try.prog 28 #[.func (.func 47) #[] #[.pointer (some ⟨B,0,none⟩)],.func (.func 30) #[] #[]] w fun e w'=>∃ v0_:Value,e= .returned v0_∧Kd.R k42 42 w' w.heap.size (fun _=>True) v0_ r∧Below w.heap.size w w':=by
 unfold L_sorted_layers.f at h
 by_cases hl:l.length<5864062014805
 case neg=>rw[if_neg hl]at h;exact absurd h (by simp)
 rw[if_pos hl]at h;have HC:=m0 (api_CloudLayer_45.calls_own _ _ (enters_of Try.func47 (by kernel_rfl) rfl) l w.heap.size w (Nat.le_refl _) (by omega) (api_CloudLayer_29.stops 8 (by decide) A c l B w hbx hr));have HS:=m0 h;clear h hl hbx hr hc;go_enter Try.func28,Try.ntmps28
 go_wp2_with (first|(go_at_call 45;refine HC.out.mono ?_;rintro e w1 ⟨v,rfl,ho,hb⟩;have HO:=m0 ho;have HB:=m0 hb;clear ho hb)|(go_at_call 46;refine(api_CloudLayer_CeilingOf_1_109.calls k (fun _=>True) v l r w _ HB.out HO.out HS.out).mono ?_;rintro e w2 ⟨rfl,ho,hb,hk⟩;have HO2:=m0 ho;have HB2:=m0 hb;clear ho hb hk))
 go_ret
 exact⟨v,rfl,Kd.R_mono HO2.out (fun _ _=>trivial),HB2.out⟩
end
section
def L_CeilingOf.l0:Nat→Int→Int→List (S42)→Int→Int→Option (Int×Int)
 |0,_,_,_,_,_=>none
 |k+1,x1,x8,x27,x28,x29=>if x29<x28 then(if 0≤x29 then(if x29<(x27.length:Int)then(if(wrap64 (x8+((rd_T42 x27 x29).f2)))≥x1 then(some ((rd_T42 x27 x29).f0,0))else(L_CeilingOf.l0 k x1 (wrap64 (x8+((rd_T42 x27 x29).f2))) x27 x28 (wrap64 (x29+1))))else(none))else(none))else(some (0,12))
def L_CeilingOf.f (k:Nat) (l0:List (S42)) (a1:Int):Option (Int×Int):=(L_CheckLayers.f k l0).bind fun bt145=>((L_within.f a1 1 8).bind fun t147=>((L_unless.f t147 2).bind fun t148=>((L_first.f k (([bt145.2,t148]:List Int))).bind fun t152=>(if t152=0 then((L_sorted_layers.f k l0).bind fun t154=>(L_CeilingOf.l0 k a1 0 t154 (t154.length:Int) 0))else(some (0,t152))))))
theorem L_CeilingOf.mono_l:∀ k,(∀ y0 y1 y2 y3 y4,LeO (L_CeilingOf.l0 k y0 y1 y2 y3 y4) (L_CeilingOf.l0 (k+1) y0 y1 y2 y3 y4))
 |0=>fun _ _ _ _ _ r h=>by simp[L_CeilingOf.l0]at h
 | k+1=>by
  have ih0:=L_CeilingOf.mono_l k
  ·intro y0 y1 y2 y3 y4;unfold L_CeilingOf.l0
   repeat' with_reducible first
    |exact ih0 ..
    |exact L_CheckLayers.mono ..
    |exact L_first.mono ..
    |exact L_sorted_layers.mono ..
    |exact LeO.refl ..
    |exact LeO.none ..
    |refine LeO.ite ?_ ?_
    |refine LeO.bind ?_ (fun _=>?_)
theorem L_CeilingOf.mono:∀ a0 a1 k,LeO (L_CeilingOf.f k a0 a1) (L_CeilingOf.f (k+1) a0 a1):=by
 intro a0 a1 k;have ih0:=L_CeilingOf.mono_l k;unfold L_CeilingOf.f
 repeat' with_reducible first
  |exact ih0 ..
  |exact L_CheckLayers.mono ..
  |exact L_first.mono ..
  |exact L_sorted_layers.mono ..
  |exact LeO.refl ..
  |exact LeO.none ..
  |refine LeO.ite ?_ ?_
  |refine LeO.bind ?_ (fun _=>?_)
theorem L_CeilingOf.calls (k:Nat) (A0:Option Addr) (c0:Nat) (l0:List (S42)) (a1:Int) (r1:Int) (r2:Int) (w:World) (hr0:Kd.C k42 w A0 l0.length l0) (hc0:l0.length≤c0) (H:L_CeilingOf.f k l0 a1=some (r1,r2)):
  Calls Try.prog 11 #[.slice A0 l0.length c0,.int .i64 a1] w fun e w'=>e= .returned (.tuple #[.int .i64 r1,.int .i64 r2])∧Below w.heap.size w w':=by
 have hu42:=Try.underlying42;have HR0:=m0 hr0;have HC0:=m0 hc0;clear hr0 hc0;have HB:=m0 (Below.refl w.heap.size w);unfold L_CeilingOf.f at H;replace H:=oa H;obtain⟨⟨t145,t146⟩,A3,H⟩:=H;(try dsimp only at H);replace H:=oa H;obtain⟨t147,A4,H⟩:=H;(try dsimp only at H);replace H:=oa H;obtain⟨t148,A5,H⟩:=H;(try dsimp only at H);obtain⟨y149,hy149⟩:∃ y_:List Int,y_=(([t146,t148]:List Int)):=⟨_,rfl⟩;replace H:((L_first.f k y149).bind fun t152=>(if t152=0 then((L_sorted_layers.f k l0).bind fun t154=>(L_CeilingOf.l0 k a1 0 t154 (t154.length:Int) 0))else(some (0,t152))))=some (r1,r2):=by first|(rw[hy149];with_reducible exact H)|(have H2_:=(Option.bind_some _ _).symm.trans H;rw[hy149];with_reducible exact H2_)|(have H2_:=(Option.bind_some _ _).symm.trans H;with_reducible exact H2_)|with_reducible exact H|(rw[hy149];exact H)|exact H
 have Ny149:=m0 hy149;clear hy149;replace H:=oa H;obtain⟨t152,A6,H⟩:=H;(try dsimp only at H)
 by_cases c7:t152=0
 ·rw [if_pos c7]at H;have c7b0:=beq_iff_eq.mpr c7;have c7b1:=bne_eq_false_iff_eq.mpr c7;clear c7;replace H:=oa H;obtain⟨t154,A8,H⟩:=H;(try dsimp only at H);have H':=m0 H;clear H;go_enter Try.func11,Try.ntmps11
  go_wp2_with (first|((with_reducible refine gc 27 rfl ?_);refine gl (some 13) Try.func27 #[.slice A0 l0.length c0] ?_;(with_reducible refine(L_CheckLayers.calls k _ _ l0 t145 t146 _ ?side1 ?side2 A3.out).mono ?_);(case side1=>repeat(first|exact HR0.out|(with_reducible refine Kd.C_alloc ?_ _)|(with_reducible refine Kd.C_drewN ?_ _)|(with_reducible refine Kd.C_drew ?_)));(case side2=>exact HC0.out);rintro e w9 ⟨rfl,hb⟩;refine⟨_,rfl,?_⟩;replace HB:=sb HB hb;(try clear hb))|((with_reducible refine gc 19 rfl ?_);refine gl (some 18) Try.func19 #[.int .i64 a1,.int .i64 1,.int .i64 8] ?_;(with_reducible refine(L_within.calls a1 1 8 t147 _ A4.out).mono ?_);rintro e w' ⟨rfl,⟨nd,rfl⟩⟩;refine⟨_,rfl,?_⟩)|((with_reducible refine gc 22 rfl ?_);refine gl (some 19) Try.func22 #[.bool t147,.int .i64 2] ?_;(with_reducible refine(L_unless.calls t147 2 t148 _ A5.out).mono ?_);rintro e w' ⟨rfl,⟨nd,rfl⟩⟩;refine⟨_,rfl,?_⟩)|((with_reducible refine ga 20 rfl ?_);refine Kd.R_lit (Kd.int .i64) _ 30 ?hg (N:=20) ?hd (xs:=([t146,t148]:List Int)) (inner:=[.int .i64 t146,.int .i64 t148]) (ok:=fun _=>True) (okp:=fun _=>True) ?hr ?hp (fun _ hk=>hk) trivial (Below.refl _ _) (Nat.le_refl _) (by simp) ?_;(case hd=>rfl);(case hg=>rfl);(case hr=>first|(go_simp;done)|(go_simp;rfl));(case hp=>exact(Reps.one (ki t146) (Reps.one (ki t148) (Reps.none _ _))));intro v150 w10 ho11 hb hg_ hnew_;clear hg_ hnew_;(first|rw[← Ny149.out]at ho11|(simp only[Int.reduceToNat]at ho11;rw[← Ny149.out]at ho11));have HO151:=m0 (Kd.R_lower ho11 (below_size bz));replace HB:=sb HB hb;clear hb ho11;obtain⟨Ao12,co12,eo12⟩:=Kd.R_slice HO151.out;subst eo12)|((with_reducible refine gc 21 rfl ?_);refine gl (some 21) Try.func21 #[.slice Ao12 y149.length co12] ?_;(with_reducible refine(L_first.calls k _ _ y149 t152 _ ?side1 ?side2 A6.out).mono ?_);(case side1=>exact bc (Kd.R_reads' HO151.out).2.2);(case side2=>exact(Kd.R_reads' HO151.out).2.1);rintro e w' ⟨rfl,⟨nd,rfl⟩⟩;refine⟨_,rfl,?_⟩)|((with_reducible refine gc 29 rfl ?_);refine goesL_ (some 26) rfl rfl Try.func29 (by kernel_rfl) rfl #[.slice A0 l0.length c0] rfl (by(try simp only[List.map_toArray,List.map_cons,List.map_nil]);first|done|rfl) ?_;refine(api_CloudLayer_29.calls_own _ _ _ _).mono ?_;rintro e w13 ⟨gb153,hg,rfl,hbox,hb⟩;refine⟨_,rfl,?_⟩;replace HO151:=rb HO151 hb;have BK153:=m0 hbox;have GE153:=gw w hg;replace HB:=sb HB hb;clear hb hbox hg)|(go_at_call 28;(with_reducible refine(L_sorted_layers.calls k gb153 A0 c0 l0  t154 _ ?side1 ?side2 ?side3 A8.out).mono ?_);(case side1=>exact(bk BK153.out));(case side2=>exact cb HR0 HB);(case side3=>exact HC0.out);rintro e w14 ⟨v155,rfl,ho0,hb⟩;replace HO151:=rb HO151 hb;have HO156:=m0 (Kd.R_lower ho0 (below_size bz));replace BK153:=bb BK153 hb;replace HB:=sb HB hb;(try clear hb);(try clear ho0);obtain⟨Ao15,co15,eo15⟩:=Kd.R_slice HO156.out;subst eo15))
  go_loopg [8,29] k (fun kq v8 v29 w'=>∃ (x8_1:Int) (x29_1:Int),v8= .int .i64 x8_1∧v29= .int .i64 x29_1∧Aside0 (L_CeilingOf.l0 kq a1 x8_1 t154 (t154.length:Int) x29_1=some (r1,r2))∧Aside0 (kq≤k)∧Aside0 (Kd.R k42 42 w' w.heap.size (fun _=>True) (.slice Ao15 t154.length co15) t154)∧Aside0 (w'.heap[gb153]?=some (.cells #[(.slice A0 l0.length c0)] 40 (0,0)))∧Aside0 (Below w.heap.size w w'))
  case atStart=>exact⟨(0),(0),rz,rz,H',⟨Nat.le_refl _⟩,⟨br HO156.out⟩,⟨bk BK153.out⟩,⟨bz⟩⟩
  case round=>
   clear H';obtain⟨x8_1,x29_1,rfl,rfl,HA,HK1,HO_27,BK153,HB⟩:=hrel
   cases gk with
   |zero=>exact absurd HA.out (by simp[L_CeilingOf.l0])
   | succ k1=>
    have H:=HA.out;clear HA;simp only[L_CeilingOf.l0]at H
    by_cases c16:x29_1<(t154.length:Int)
    ·rw [if_pos c16]at H;have c16b0:=decide_eq_true c16;clear c16
     by_cases c17:0≤x29_1
     ·rw [if_pos c17]at H;have c17b0:=decide_eq_true c17;clear c17
      by_cases c18:x29_1<(t154.length:Int)
      ·rw [if_pos c18]at H;have c18b0:=decide_eq_true c18;clear c18
       by_cases c19:(wrap64 (x8_1+((rd_T42 t154 x29_1).f2)))≥a1
       ·rw [if_pos c19]at H;have c19b0:=decide_eq_true c19;clear c19;simp only[Option.some.injEq,Prod.mk.injEq]at H;obtain⟨rfl,rfl⟩:=H;have p157:0≤(x29_1:Int):=od;have q157:x29_1<(t154.length:Int):=od;obtain⟨ad157,e157,hx157_0,hx157_1,hx157_2⟩:=at_T42 (Kd.R_reads' HO_27.out).2.2 x29_1 p157 q157
        cases e157
        replace p157:=eq_true p157;replace q157:=eq_true q157
        go_wp2_with (first|((with_reducible refine ga 10 rfl ?_);refine be 10 42 #[.int .i64 0,.int .i64 0,.int .i64 0] ?_;intro gb158 hg w20 hbox hb;replace HO_27:=m0 (Kd.R_below (Kd.R_elderB (br HO_27.out) gb158 (Nat.le_of_eq hg.symm)) hb);have BK158:=m0 hbox;have GE158:=gw w hg;replace HB:=sb HB hb;have NB153_158:=nl BK153 hg;have NB158_153:=ng (nl BK153 hg);replace BK153:=bb BK153 hb;clear hb hbox hg;have hnb21:=NB158_153.out;have hnc21:=NB153_158.out;obtain⟨_,_,_,_,_,_⟩:=b3 BK158))
        go_ret2
        exact ez
       ·rw [if_neg c19]at H;have c19b0:=decide_eq_false c19;clear c19;have H':=m0 H;clear H;have p157:0≤(x29_1:Int):=od;have q157:x29_1<(t154.length:Int):=od;obtain⟨ad157,e157,hx157_0,hx157_1,hx157_2⟩:=at_T42 (Kd.R_reads' HO_27.out).2.2 x29_1 p157 q157
        cases e157
        replace p157:=eq_true p157;replace q157:=eq_true q157
        go_wp2_with (first|((with_reducible refine ga 10 rfl ?_);refine be 10 42 #[.int .i64 0,.int .i64 0,.int .i64 0] ?_;intro gb158 hg w23 hbox hb;replace HO_27:=m0 (Kd.R_below (Kd.R_elderB (br HO_27.out) gb158 (Nat.le_of_eq hg.symm)) hb);have BK158:=m0 hbox;have GE158:=gw w hg;replace HB:=sb HB hb;have NB153_158:=nl BK153 hg;have NB158_153:=ng (nl BK153 hg);replace BK153:=bb BK153 hb;clear hb hbox hg;have hnb24:=NB158_153.out;have hnc24:=NB153_158.out;obtain⟨_,_,_,_,_,_⟩:=b3 BK158))
        go_roundg k1
        case measure=>have:=HK1.out;omega
        case rel=>exact⟨(wrap64 (x8_1+((rd_T42 t154 x29_1).f2))),(wrap64 (x29_1+1)),rz,rz,H',⟨by have:=HK1.out;omega⟩,⟨by (with_reducible repeat(first|apply Kd.R_alloc|apply Kd.R_drewN|apply Kd.R_drew));exact Kd.R_mono (rf (rf (rf (rn gb158 HO_27.out (·.2)) (·.2)) (·.2)) (·.2)) (fun _ hk=>trivial)⟩,⟨bq BK153.out⟩,⟨bz⟩⟩
      ·rw [if_neg c18]at H;exact absurd H (by simp)
     ·rw [if_neg c17]at H;exact absurd H (by simp)
    ·rw [if_neg c16]at H;have c16b0:=decide_eq_false c16;clear c16;simp only[Option.some.injEq,Prod.mk.injEq]at H;obtain⟨rfl,rfl⟩:=H
     go_wp2
     go_ret2
     exact ez
 ·rw [if_neg c7]at H;have c7b0:=beq_eq_false_iff_ne.mpr c7;have c7b1:=bne_iff_ne.mpr c7;simp only[Option.some.injEq,Prod.mk.injEq]at H;obtain⟨rfl,rfl⟩:=H;go_enter Try.func11,Try.ntmps11
  go_wp2_with (first|((with_reducible refine gc 27 rfl ?_);refine gl (some 13) Try.func27 #[.slice A0 l0.length c0] ?_;(with_reducible refine(L_CheckLayers.calls k _ _ l0 t145 t146 _ ?side1 ?side2 A3.out).mono ?_);(case side1=>repeat(first|exact HR0.out|(with_reducible refine Kd.C_alloc ?_ _)|(with_reducible refine Kd.C_drewN ?_ _)|(with_reducible refine Kd.C_drew ?_)));(case side2=>exact HC0.out);rintro e w26 ⟨rfl,hb⟩;refine⟨_,rfl,?_⟩;replace HB:=sb HB hb;(try clear hb))|((with_reducible refine gc 19 rfl ?_);refine gl (some 18) Try.func19 #[.int .i64 a1,.int .i64 1,.int .i64 8] ?_;(with_reducible refine(L_within.calls a1 1 8 t147 _ A4.out).mono ?_);rintro e w' ⟨rfl,⟨nd,rfl⟩⟩;refine⟨_,rfl,?_⟩)|((with_reducible refine gc 22 rfl ?_);refine gl (some 19) Try.func22 #[.bool t147,.int .i64 2] ?_;(with_reducible refine(L_unless.calls t147 2 t148 _ A5.out).mono ?_);rintro e w' ⟨rfl,⟨nd,rfl⟩⟩;refine⟨_,rfl,?_⟩)|((with_reducible refine ga 20 rfl ?_);refine Kd.R_lit (Kd.int .i64) _ 30 ?hg (N:=20) ?hd (xs:=([t146,t148]:List Int)) (inner:=[.int .i64 t146,.int .i64 t148]) (ok:=fun _=>True) (okp:=fun _=>True) ?hr ?hp (fun _ hk=>hk) trivial (Below.refl _ _) (Nat.le_refl _) (by simp) ?_;(case hd=>rfl);(case hg=>rfl);(case hr=>first|(go_simp;done)|(go_simp;rfl));(case hp=>exact(Reps.one (ki t146) (Reps.one (ki t148) (Reps.none _ _))));intro v150 w27 ho28 hb hg_ hnew_;clear hg_ hnew_;(first|rw[← Ny149.out]at ho28|(simp only[Int.reduceToNat]at ho28;rw[← Ny149.out]at ho28));have HO151:=m0 (Kd.R_lower ho28 (below_size bz));replace HB:=sb HB hb;clear hb ho28;obtain⟨Ao29,co29,eo29⟩:=Kd.R_slice HO151.out;subst eo29)|((with_reducible refine gc 21 rfl ?_);refine gl (some 21) Try.func21 #[.slice Ao29 y149.length co29] ?_;(with_reducible refine(L_first.calls k _ _ y149 t152 _ ?side1 ?side2 A6.out).mono ?_);(case side1=>exact bc (Kd.R_reads' HO151.out).2.2);(case side2=>exact(Kd.R_reads' HO151.out).2.1);rintro e w' ⟨rfl,⟨nd,rfl⟩⟩;refine⟨_,rfl,?_⟩))
  go_ret2
  exact ez
end
section
def L_isSignal.f (a0:Int):Option (Bool):=(L_within.f a0 0 10000).bind fun t159=>(some t159)
theorem L_isSignal.calls (a0:Int) (r:Bool) (w:World) (H:L_isSignal.f a0=some r):
  Calls Try.prog 59 #[.int .i64 a0] w fun e w'=>e= .returned (.bool r)∧Drawn0 w w':=by
 unfold L_isSignal.f at H;replace H:=oa H;obtain⟨t159,A2,H⟩:=H;(try dsimp only at H);obtain rfl:=Option.some.inj H;go_enter Try.func59,Try.ntmps59
 go_wp2_with (first|((with_reducible refine gc 19 rfl ?_);refine gl (some 4) Try.func19 #[.int .i64 a0,.int .i64 0,.int .i64 10000] ?_;(with_reducible refine(L_within.calls a0 0 10000 t159 _ A2.out).mono ?_);rintro e w' ⟨rfl,⟨nd,rfl⟩⟩;refine⟨_,rfl,?_⟩))
 go_ret
 exact⟨rz,by repeat(first|exact Drawn0.refl _|apply Drawn0.step)⟩
end
section
def L_CheckProfile_1.f (a0:Int):Option (Int):=(L_isSignal.f a0).bind fun t160=>((L_unless.f t160 2).bind fun t161=>(some t161))
theorem L_CheckProfile_1.calls (a0:Int) (r:Int) (w:World) (H:L_CheckProfile_1.f a0=some r):
  Calls Try.prog 58 #[.int .i64 a0] w fun e w'=>e= .returned (.int .i64 r)∧Drawn0 w w':=by
 unfold L_CheckProfile_1.f at H;replace H:=oa H;obtain⟨t160,A2,H⟩:=H;(try dsimp only at H);replace H:=oa H;obtain⟨t161,A3,H⟩:=H;(try dsimp only at H);obtain rfl:=Option.some.inj H;go_enter Try.func58,Try.ntmps58
 go_wp2_with (first|((with_reducible refine gc 59 rfl ?_);refine gl (some 4) Try.func59 #[.int .i64 a0] ?_;(with_reducible refine(L_isSignal.calls a0 t160 _ A2.out).mono ?_);rintro e w' ⟨rfl,⟨nd,rfl⟩⟩;refine⟨_,rfl,?_⟩)|((with_reducible refine gc 22 rfl ?_);refine gl (some 5) Try.func22 #[.bool t160,.int .i64 2] ?_;(with_reducible refine(L_unless.calls t160 2 t161 _ A3.out).mono ?_);rintro e w' ⟨rfl,⟨nd,rfl⟩⟩;refine⟨_,rfl,?_⟩))
 go_ret
 exact⟨rz,by repeat(first|exact Drawn0.refl _|apply Drawn0.step)⟩
end
section
def L_each_int_CheckProfile_1.l0:Nat→List Int→Int→Int→Option (Int×Int)
 |0,_,_,_=>none
 |k+1,x9,x10,x11=>if x11<x10 then(if 0≤x11 then(if x11<(x9.length:Int)then((L_CheckProfile_1.f (rd x9 x11)).bind fun t163=>(if t163=0 then(L_each_int_CheckProfile_1.l0 k x9 x10 (wrap64 (x11+1)))else(some (x11,t163))))else(none))else(none))else(some (0,0))
def L_each_int_CheckProfile_1.f (k:Nat) (l0:List Int)  :Option (Int×Int):=L_each_int_CheckProfile_1.l0 k l0 (l0.length:Int) 0
theorem L_each_int_CheckProfile_1.mono_l:∀ k,(∀ y0 y1 y2,LeO (L_each_int_CheckProfile_1.l0 k y0 y1 y2) (L_each_int_CheckProfile_1.l0 (k+1) y0 y1 y2))
 |0=>fun _ _ _ r h=>by simp[L_each_int_CheckProfile_1.l0]at h
 | k+1=>by
  have ih0:=L_each_int_CheckProfile_1.mono_l k
  ·intro y0 y1 y2;unfold L_each_int_CheckProfile_1.l0
   repeat' with_reducible first
    |exact ih0 ..
    |exact LeO.refl ..
    |exact LeO.none ..
    |refine LeO.ite ?_ ?_
    |refine LeO.bind ?_ (fun _=>?_)
theorem L_each_int_CheckProfile_1.mono:∀ a0 k,LeO (L_each_int_CheckProfile_1.f k a0) (L_each_int_CheckProfile_1.f (k+1) a0):=by
 intro a0 k;have ih0:=L_each_int_CheckProfile_1.mono_l k;unfold L_each_int_CheckProfile_1.f
 repeat' with_reducible first
  |exact ih0 ..
  |exact LeO.refl ..
  |exact LeO.none ..
  |refine LeO.ite ?_ ?_
  |refine LeO.bind ?_ (fun _=>?_)
theorem L_each_int_CheckProfile_1.calls (k:Nat) (A0:Option Addr) (c0:Nat) (l0:List Int)  (r1:Int) (r2:Int) (w:World) (hr0:Kd.C (Kd.int .i64) w A0 l0.length l0) (hc0:l0.length≤c0) (H:L_each_int_CheckProfile_1.f k l0=some (r1,r2)):
  Calls Try.prog 32 #[.slice A0 l0.length c0,.func (.func 58) #[] #[]] w fun e w'=>e= .returned (.tuple #[.int .i64 r1,.int .i64 r2])∧Drawn0 w w':=by
 have HR0:=m0 hr0;have HC0:=m0 hc0;clear hr0 hc0;unfold L_each_int_CheckProfile_1.f at H;have H':=m0 H;clear H;go_enter Try.func32,Try.ntmps32
 go_wp2
 go_loopg [11] k (fun kq v11 w'=>∃ (x11_1:Int),v11= .int .i64 x11_1∧Aside0 (L_each_int_CheckProfile_1.l0 kq l0 (l0.length:Int) x11_1=some (r1,r2))∧Aside0 (kq≤k)∧Drawn0 w w')
 case atStart=>exact⟨(0),rz,H',⟨Nat.le_refl _⟩,by repeat(first|exact Drawn0.refl _|apply Drawn0.step)⟩
 case round=>
  clear H';obtain⟨x11_1,rfl,HA,HK1,⟨m1,rfl⟩⟩:=hrel
  cases gk with
  |zero=>exact absurd HA.out (by simp[L_each_int_CheckProfile_1.l0])
  | succ k1=>
   have H:=HA.out;clear HA;simp only[L_each_int_CheckProfile_1.l0]at H
   by_cases c3:x11_1<(l0.length:Int)
   ·rw [if_pos c3]at H;have c3b0:=decide_eq_true c3;clear c3
    by_cases c4:0≤x11_1
    ·rw [if_pos c4]at H;have c4b0:=decide_eq_true c4;clear c4
     by_cases c5:x11_1<(l0.length:Int)
     ·rw [if_pos c5]at H;have c5b0:=decide_eq_true c5;clear c5;replace H:=oa H;obtain⟨t163,A6,H⟩:=H;(try dsimp only at H)
      by_cases c7:t163=0
      ·rw [if_pos c7]at H;have c7b0:=beq_iff_eq.mpr c7;have c7b1:=bne_eq_false_iff_eq.mpr c7;clear c7;have H':=m0 H;clear H;have p162:0≤(x11_1:Int):=od;have q162:x11_1<(l0.length:Int):=od;obtain⟨ad162,e162,hx162_0⟩:=Kd.at_int HR0.out x11_1 p162 q162
       cases e162
       replace p162:=eq_true p162;replace q162:=eq_true q162
       go_wp2_with (first|(go_at_call 58;(with_reducible refine(L_CheckProfile_1.calls (rd l0 x11_1) t163 _ A6.out).mono ?_);rintro e w' ⟨rfl,⟨nd,rfl⟩⟩))
       go_roundg k1
       case measure=>have:=HK1.out;omega
       case rel=>exact⟨(wrap64 (x11_1+1)),rz,H',⟨by have:=HK1.out;omega⟩,by repeat(first|exact Drawn0.refl _|apply Drawn0.step)⟩
      ·rw [if_neg c7]at H;have c7b0:=beq_eq_false_iff_ne.mpr c7;have c7b1:=bne_iff_ne.mpr c7;simp only[Option.some.injEq,Prod.mk.injEq]at H;obtain⟨rfl,rfl⟩:=H;have p162:0≤(x11_1:Int):=od;have q162:x11_1<(l0.length:Int):=od;obtain⟨ad162,e162,hx162_0⟩:=Kd.at_int HR0.out x11_1 p162 q162
       cases e162
       replace p162:=eq_true p162;replace q162:=eq_true q162
       go_wp2_with (first|(go_at_call 58;(with_reducible refine(L_CheckProfile_1.calls (rd l0 x11_1) t163 _ A6.out).mono ?_);rintro e w' ⟨rfl,⟨nd,rfl⟩⟩))
       go_ret2
       exact⟨rz,by repeat(first|exact Drawn0.refl _|apply Drawn0.step)⟩
     ·rw [if_neg c5]at H;exact absurd H (by simp)
    ·rw [if_neg c4]at H;exact absurd H (by simp)
   ·rw [if_neg c3]at H;have c3b0:=decide_eq_false c3;clear c3;simp only[Option.some.injEq,Prod.mk.injEq]at H;obtain⟨rfl,rfl⟩:=H
    go_wp2
    go_ret2
    exact⟨rz,by repeat(first|exact Drawn0.refl _|apply Drawn0.step)⟩
end
section
def L_CheckProfile.f (k:Nat) (l0:List Int):Option (Int×Int):=(L_unless.f (decide ((l0.length:Int)>0)) 10).bind fun t164=>((L_unless.f (decide ((l0.length:Int)≤24)) 8).bind fun t165=>((L_first.f k (([t164,t165]:List Int))).bind fun t169=>(if t169=0 then((L_each_int_CheckProfile_1.f k l0).bind fun bt170=>(some (bt170.1,bt170.2)))else(some (0,t169)))))
theorem L_CheckProfile.mono:∀ a0 k,LeO (L_CheckProfile.f k a0) (L_CheckProfile.f (k+1) a0):=by
 intro a0 k;unfold L_CheckProfile.f
 repeat' with_reducible first
  |exact L_each_int_CheckProfile_1.mono ..
  |exact L_first.mono ..
  |exact LeO.refl ..
  |exact LeO.none ..
  |refine LeO.ite ?_ ?_
  |refine LeO.bind ?_ (fun _=>?_)
theorem L_CheckProfile.calls (k:Nat) (A0:Option Addr) (c0:Nat) (l0:List Int) (r1:Int) (r2:Int) (w:World) (hr0:Kd.C (Kd.int .i64) w A0 l0.length l0) (hc0:l0.length≤c0) (H:L_CheckProfile.f k l0=some (r1,r2)):
  Calls Try.prog 41 #[.slice A0 l0.length c0] w fun e w'=>e= .returned (.tuple #[.int .i64 r1,.int .i64 r2])∧Below w.heap.size w w':=by
 have HR0:=m0 hr0;have HC0:=m0 hc0;clear hr0 hc0;have HB:=m0 (Below.refl w.heap.size w);unfold L_CheckProfile.f at H;replace H:=oa H;obtain⟨t164,A2,H⟩:=H;(try dsimp only at H);replace H:=oa H;obtain⟨t165,A3,H⟩:=H;(try dsimp only at H);obtain⟨y166,hy166⟩:∃ y_:List Int,y_=(([t164,t165]:List Int)):=⟨_,rfl⟩;replace H:((L_first.f k y166).bind fun t169=>(if t169=0 then((L_each_int_CheckProfile_1.f k l0).bind fun bt170=>(some (bt170.1,bt170.2)))else(some (0,t169))))=some (r1,r2):=by first|(rw[hy166];with_reducible exact H)|(have H2_:=(Option.bind_some _ _).symm.trans H;rw[hy166];with_reducible exact H2_)|(have H2_:=(Option.bind_some _ _).symm.trans H;with_reducible exact H2_)|with_reducible exact H|(rw[hy166];exact H)|exact H
 have Ny166:=m0 hy166;clear hy166;replace H:=oa H;obtain⟨t169,A4,H⟩:=H;(try dsimp only at H)
 by_cases c5:t169=0
 ·rw [if_pos c5]at H;have c5b0:=beq_iff_eq.mpr c5;have c5b1:=bne_eq_false_iff_eq.mpr c5;clear c5;replace H:=oa H;obtain⟨⟨t170,t171⟩,A6,H⟩:=H;(try dsimp only at H);simp only[Option.some.injEq,Prod.mk.injEq]at H;obtain⟨rfl,rfl⟩:=H;go_enter Try.func41,Try.ntmps41
  go_wp2_with (first|((with_reducible refine gc 22 rfl ?_);refine goesL_ (some 8) rfl rfl Try.func22 (by kernel_rfl) rfl #[.bool (decide ((l0.length:Int)>0)),.int .i64 10] rfl (by(try simp only[List.map_toArray,List.map_cons,List.map_nil]);first|done|rfl|(simp only[List.length_drop,List.length_take];rfl)|(simp;first|done|exact⟨rfl,rfl⟩)) ?_;(with_reducible refine(L_unless.calls (decide ((l0.length:Int)>0)) 10 t164 _ A2.out).mono ?_);rintro e w' ⟨rfl,⟨nd,rfl⟩⟩;refine⟨_,rfl,?_⟩)|((with_reducible refine gc 22 rfl ?_);refine gl (some 12) Try.func22 #[.bool (decide ((l0.length:Int)≤24)),.int .i64 8] ?_;(with_reducible refine(L_unless.calls (decide ((l0.length:Int)≤24)) 8 t165 _ A3.out).mono ?_);rintro e w' ⟨rfl,⟨nd,rfl⟩⟩;refine⟨_,rfl,?_⟩)|((with_reducible refine ga 13 rfl ?_);refine Kd.R_lit (Kd.int .i64) _ 30 ?hg (N:=13) ?hd (xs:=([t164,t165]:List Int)) (inner:=[.int .i64 t164,.int .i64 t165]) (ok:=fun _=>True) (okp:=fun _=>True) ?hr ?hp (fun _ hk=>hk) trivial (Below.refl _ _) (Nat.le_refl _) (by simp) ?_;(case hd=>rfl);(case hg=>rfl);(case hr=>first|(go_simp;done)|(go_simp;rfl));(case hp=>exact(Reps.one (ki t164) (Reps.one (ki t165) (Reps.none _ _))));intro v167 w7 ho8 hb hg_ hnew_;clear hg_ hnew_;(first|rw[← Ny166.out]at ho8|(simp only[Int.reduceToNat]at ho8;rw[← Ny166.out]at ho8));have HO168:=m0 (Kd.R_lower ho8 (below_size bz));replace HB:=sb HB hb;clear hb ho8;obtain⟨Ao9,co9,eo9⟩:=Kd.R_slice HO168.out;subst eo9)|((with_reducible refine gc 21 rfl ?_);refine gl (some 14) Try.func21 #[.slice Ao9 y166.length co9] ?_;(with_reducible refine(L_first.calls k _ _ y166 t169 _ ?side1 ?side2 A4.out).mono ?_);(case side1=>exact bc (Kd.R_reads' HO168.out).2.2);(case side2=>exact(Kd.R_reads' HO168.out).2.1);rintro e w' ⟨rfl,⟨nd,rfl⟩⟩;refine⟨_,rfl,?_⟩)|((with_reducible refine gc 32 rfl ?_);refine gl (some 19) Try.func32 #[.slice A0 l0.length c0,.func (.func 58) #[] #[]] ?_;(with_reducible refine(L_each_int_CheckProfile_1.calls k _ _ l0  t170 t171 _ ?side1 ?side2 A6.out).mono ?_);(case side1=>repeat(first|exact(Kd.C_below HR0.out bz)|(with_reducible refine Kd.C_alloc ?_ _)|(with_reducible refine Kd.C_drewN ?_ _)|(with_reducible refine Kd.C_drew ?_)));(case side2=>exact HC0.out);rintro e w' ⟨rfl,⟨nd,rfl⟩⟩;refine⟨_,rfl,?_⟩))
  go_ret2
  exact ez
 ·rw [if_neg c5]at H;have c5b0:=beq_eq_false_iff_ne.mpr c5;have c5b1:=bne_iff_ne.mpr c5;simp only[Option.some.injEq,Prod.mk.injEq]at H;obtain⟨rfl,rfl⟩:=H;go_enter Try.func41,Try.ntmps41
  go_wp2_with (first|((with_reducible refine gc 22 rfl ?_);refine goesL_ (some 8) rfl rfl Try.func22 (by kernel_rfl) rfl #[.bool (decide ((l0.length:Int)>0)),.int .i64 10] rfl (by(try simp only[List.map_toArray,List.map_cons,List.map_nil]);first|done|rfl|(simp only[List.length_drop,List.length_take];rfl)|(simp;first|done|exact⟨rfl,rfl⟩)) ?_;(with_reducible refine(L_unless.calls (decide ((l0.length:Int)>0)) 10 t164 _ A2.out).mono ?_);rintro e w' ⟨rfl,⟨nd,rfl⟩⟩;refine⟨_,rfl,?_⟩)|((with_reducible refine gc 22 rfl ?_);refine gl (some 12) Try.func22 #[.bool (decide ((l0.length:Int)≤24)),.int .i64 8] ?_;(with_reducible refine(L_unless.calls (decide ((l0.length:Int)≤24)) 8 t165 _ A3.out).mono ?_);rintro e w' ⟨rfl,⟨nd,rfl⟩⟩;refine⟨_,rfl,?_⟩)|((with_reducible refine ga 13 rfl ?_);refine Kd.R_lit (Kd.int .i64) _ 30 ?hg (N:=13) ?hd (xs:=([t164,t165]:List Int)) (inner:=[.int .i64 t164,.int .i64 t165]) (ok:=fun _=>True) (okp:=fun _=>True) ?hr ?hp (fun _ hk=>hk) trivial (Below.refl _ _) (Nat.le_refl _) (by simp) ?_;(case hd=>rfl);(case hg=>rfl);(case hr=>first|(go_simp;done)|(go_simp;rfl));(case hp=>exact(Reps.one (ki t164) (Reps.one (ki t165) (Reps.none _ _))));intro v167 w10 ho11 hb hg_ hnew_;clear hg_ hnew_;(first|rw[← Ny166.out]at ho11|(simp only[Int.reduceToNat]at ho11;rw[← Ny166.out]at ho11));have HO168:=m0 (Kd.R_lower ho11 (below_size bz));replace HB:=sb HB hb;clear hb ho11;obtain⟨Ao12,co12,eo12⟩:=Kd.R_slice HO168.out;subst eo12)|((with_reducible refine gc 21 rfl ?_);refine gl (some 14) Try.func21 #[.slice Ao12 y166.length co12] ?_;(with_reducible refine(L_first.calls k _ _ y166 t169 _ ?side1 ?side2 A4.out).mono ?_);(case side1=>exact bc (Kd.R_reads' HO168.out).2.2);(case side2=>exact(Kd.R_reads' HO168.out).2.1);rintro e w' ⟨rfl,⟨nd,rfl⟩⟩;refine⟨_,rfl,?_⟩))
  go_ret2
  exact ez
end
section
def L_open.f (k:Nat) (l0:List Int):Option (List Int×Int):=(L_CheckProfile.f k l0).bind fun bt172=>(some (l0,bt172.2))
theorem L_open.mono:∀ a0 k,LeO (L_open.f k a0) (L_open.f (k+1) a0):=by
 intro a0 k;unfold L_open.f
 repeat' with_reducible first
  |exact L_CheckProfile.mono ..
  |exact LeO.refl ..
  |exact LeO.none ..
  |refine LeO.ite ?_ ?_
  |refine LeO.bind ?_ (fun _=>?_)
theorem L_open.calls (k:Nat) (P0_:Nat→Prop) (A0:Option Addr) (c0:Nat) (l0:List Int) (r1:List Int) (r2:Int) (w:World) (hs0:Kd.V (Kd.int .i64) 3 w w.heap.size (fun k_=>P0_ k_) (.slice A0 l0.length c0) l0) (H:L_open.f k l0=some (r1,r2)):
  Calls Try.prog 18 #[.slice A0 l0.length c0] w fun e w'=>∃ v0_:Value,e= .returned (.tuple #[v0_,.int .i64 r2])∧Kd.V (Kd.int .i64) 3 w' w.heap.size (fun k_=>(P0_ k_∨w.heap.size≤k_)) v0_ r1∧Below w.heap.size w w':=by
 have HO0:=m0 (show Kd.V (Kd.int .i64) 3 w w.heap.size (fun k_=>(P0_ k_∨w.heap.size≤k_)) (.slice A0 l0.length c0) l0 from Kd.V_mono hs0 (fun k_ hk=> .inl hk));have HB:=m0 (Below.refl w.heap.size w);unfold L_open.f at H;replace H:=oa H;obtain⟨⟨t172,t173⟩,A2,H⟩:=H;(try dsimp only at H);simp only[Option.some.injEq,Prod.mk.injEq]at H;obtain⟨rfl,rfl⟩:=H;go_enter Try.func18,Try.ntmps18
 go_wp2_with (first|((with_reducible refine gc 41 rfl ?_);refine gl (some 8) Try.func41 #[.slice A0 l0.length c0] ?_;(with_reducible refine(L_CheckProfile.calls k _ _ l0 t172 t173 _ ?side1 ?side2 A2.out).mono ?_);(case side1=>exact bc (Kd.V_reads' HO0.out).2.2);(case side2=>exact(Kd.V_reads' HO0.out).2.1);rintro e w3 ⟨rfl,hb⟩;refine⟨_,rfl,?_⟩;replace HO0:=vb HO0 hb;replace HB:=sb HB hb;(try clear hb)))
 go_ret2
 exact⟨_,by first|rfl|(simp[errW_none,errW_some]<;>rfl)|(simp[*,errW_none,errW_some]<;>rfl),by(with_reducible repeat(first|apply Kd.V_alloc|apply Kd.V_drewN|apply Kd.V_drew));exact HO0.out,by repeat(first|(with_reducible first|exact HB.out|apply below_alloc|apply pw_below_drewN|apply below_drew1)|exact HB.out)⟩
end
section
def L_isConstant.f (a0:Int):Option (Bool):=(L_within.f a0 1 1000000).bind fun t174=>(some t174)
theorem L_isConstant.calls (a0:Int) (r:Bool) (w:World) (H:L_isConstant.f a0=some r):
  Calls Try.prog 52 #[.int .i64 a0] w fun e w'=>e= .returned (.bool r)∧Drawn0 w w':=by
 unfold L_isConstant.f at H;replace H:=oa H;obtain⟨t174,A2,H⟩:=H;(try dsimp only at H);obtain rfl:=Option.some.inj H;go_enter Try.func52,Try.ntmps52
 go_wp2_with (first|((with_reducible refine gc 19 rfl ?_);refine gl (some 4) Try.func19 #[.int .i64 a0,.int .i64 1,.int .i64 1000000] ?_;(with_reducible refine(L_within.calls a0 1 1000000 t174 _ A2.out).mono ?_);rintro e w' ⟨rfl,⟨nd,rfl⟩⟩;refine⟨_,rfl,?_⟩))
 go_ret
 exact⟨rz,by repeat(first|exact Drawn0.refl _|apply Drawn0.step)⟩
end
section
def L_constantErr.f (a0:Int):Option (Int):=(L_isConstant.f a0).bind fun t175=>((L_unless.f t175 2).bind fun t176=>(some t176))
theorem L_constantErr.calls (a0:Int) (r:Int) (w:World) (H:L_constantErr.f a0=some r):
  Calls Try.prog 37 #[.int .i64 a0] w fun e w'=>e= .returned (.int .i64 r)∧Drawn0 w w':=by
 unfold L_constantErr.f at H;replace H:=oa H;obtain⟨t175,A2,H⟩:=H;(try dsimp only at H);replace H:=oa H;obtain⟨t176,A3,H⟩:=H;(try dsimp only at H);obtain rfl:=Option.some.inj H;go_enter Try.func37,Try.ntmps37
 go_wp2_with (first|((with_reducible refine gc 52 rfl ?_);refine gl (some 4) Try.func52 #[.int .i64 a0] ?_;(with_reducible refine(L_isConstant.calls a0 t175 _ A2.out).mono ?_);rintro e w' ⟨rfl,⟨nd,rfl⟩⟩;refine⟨_,rfl,?_⟩)|((with_reducible refine gc 22 rfl ?_);refine gl (some 5) Try.func22 #[.bool t175,.int .i64 2] ?_;(with_reducible refine(L_unless.calls t175 2 t176 _ A3.out).mono ?_);rintro e w' ⟨rfl,⟨nd,rfl⟩⟩;refine⟨_,rfl,?_⟩))
 go_ret
 exact⟨rz,by repeat(first|exact Drawn0.refl _|apply Drawn0.step)⟩
end
section
def L_profile_sum.l0:Nat→Int→List Int→Int→Int→Option (Int)
 |0,_,_,_,_=>none
 |k+1,x3,x6,x7,x8=>if x8<x7 then(if 0≤x8 then(if x8<(x6.length:Int)then(L_profile_sum.l0 k (wrap64 (x3+(rd x6 x8))) x6 x7 (wrap64 (x8+1)))else(none))else(none))else(some x3)
def L_profile_sum.f (k:Nat) (l0:List Int):Option (Int):=L_profile_sum.l0 k 0 l0 (l0.length:Int) 0
theorem L_profile_sum.mono_l:∀ k,(∀ y0 y1 y2 y3,LeO (L_profile_sum.l0 k y0 y1 y2 y3) (L_profile_sum.l0 (k+1) y0 y1 y2 y3))
 |0=>fun _ _ _ _ r h=>by simp[L_profile_sum.l0]at h
 | k+1=>by
  have ih0:=L_profile_sum.mono_l k
  ·intro y0 y1 y2 y3;unfold L_profile_sum.l0
   repeat' with_reducible first
    |exact ih0 ..
    |exact LeO.refl ..
    |exact LeO.none ..
    |refine LeO.ite ?_ ?_
    |refine LeO.bind ?_ (fun _=>?_)
theorem L_profile_sum.mono:∀ a0 k,LeO (L_profile_sum.f k a0) (L_profile_sum.f (k+1) a0):=by
 intro a0 k;have ih0:=L_profile_sum.mono_l k;unfold L_profile_sum.f
 repeat' with_reducible first
  |exact ih0 ..
  |exact LeO.refl ..
  |exact LeO.none ..
  |refine LeO.ite ?_ ?_
  |refine LeO.bind ?_ (fun _=>?_)
theorem L_profile_sum.calls (k:Nat) (A0:Option Addr) (c0:Nat) (l0:List Int) (r:Int) (w:World) (hr0:Kd.C (Kd.int .i64) w A0 l0.length l0) (hc0:l0.length≤c0) (H:L_profile_sum.f k l0=some r):
  Calls Try.prog 53 #[.slice A0 l0.length c0] w fun e w'=>e= .returned (.int .i64 r)∧Drawn0 w w':=by
 have HR0:=m0 hr0;have HC0:=m0 hc0;clear hr0 hc0;unfold L_profile_sum.f at H;have H':=m0 H;clear H;go_enter Try.func53,Try.ntmps53
 go_wp2
 go_loopg [3,8] k (fun kq v3 v8 w'=>∃ (x3_1:Int) (x8_1:Int),v3= .int .i64 x3_1∧v8= .int .i64 x8_1∧Aside0 (L_profile_sum.l0 kq x3_1 l0 (l0.length:Int) x8_1=some r)∧Aside0 (kq≤k)∧Drawn0 w w')
 case atStart=>exact⟨(0),(0),rz,rz,H',⟨Nat.le_refl _⟩,by repeat(first|exact Drawn0.refl _|apply Drawn0.step)⟩
 case round=>
  clear H';obtain⟨x3_1,x8_1,rfl,rfl,HA,HK1,⟨m1,rfl⟩⟩:=hrel
  cases gk with
  |zero=>exact absurd HA.out (by simp[L_profile_sum.l0])
  | succ k1=>
   have H:=HA.out;clear HA;simp only[L_profile_sum.l0]at H
   by_cases c2:x8_1<(l0.length:Int)
   ·rw [if_pos c2]at H;have c2b0:=decide_eq_true c2;clear c2
    by_cases c3:0≤x8_1
    ·rw [if_pos c3]at H;have c3b0:=decide_eq_true c3;clear c3
     by_cases c4:x8_1<(l0.length:Int)
     ·rw [if_pos c4]at H;have c4b0:=decide_eq_true c4;clear c4;have H':=m0 H;clear H;have p177:0≤(x8_1:Int):=od;have q177:x8_1<(l0.length:Int):=od;obtain⟨ad177,e177,hx177_0⟩:=Kd.at_int HR0.out x8_1 p177 q177
      cases e177
      replace p177:=eq_true p177;replace q177:=eq_true q177
      go_wp2
      go_roundg k1
      case measure=>have:=HK1.out;omega
      case rel=>exact⟨(wrap64 (x3_1+(rd l0 x8_1))),(wrap64 (x8_1+1)),rz,rz,H',⟨by have:=HK1.out;omega⟩,by repeat(first|exact Drawn0.refl _|apply Drawn0.step)⟩
     ·rw [if_neg c4]at H;exact absurd H (by simp)
    ·rw [if_neg c3]at H;exact absurd H (by simp)
   ·rw [if_neg c2]at H;have c2b0:=decide_eq_false c2;clear c2;obtain rfl:=Option.some.inj H
    go_wp2
    go_ret
    exact⟨rz,by repeat(first|exact Drawn0.refl _|apply Drawn0.step)⟩
end
section
def L_divisor.l0:Nat→Int→Int→Option (Int)
 |0,_,_=>none
 |k+1,x0,x1=>if x1=0 then(some (mx x0 (wrap64 (-x0))))else(L_divisor.l0 k x1 (Int.tmod x0 x1))
def L_divisor.f (k:Nat) (a0:Int) (a1:Int):Option (Int):=L_divisor.l0 k a0 a1
theorem L_divisor.mono_l:∀ k,(∀ y0 y1,LeO (L_divisor.l0 k y0 y1) (L_divisor.l0 (k+1) y0 y1))
 |0=>fun _ _ r h=>by simp[L_divisor.l0]at h
 | k+1=>by
  have ih0:=L_divisor.mono_l k
  ·intro y0 y1;unfold L_divisor.l0
   repeat' with_reducible first
    |exact ih0 ..
    |exact LeO.refl ..
    |exact LeO.none ..
    |refine LeO.ite ?_ ?_
    |refine LeO.bind ?_ (fun _=>?_)
theorem L_divisor.mono:∀ a0 a1 k,LeO (L_divisor.f k a0 a1) (L_divisor.f (k+1) a0 a1):=by
 intro a0 a1 k;have ih0:=L_divisor.mono_l k;unfold L_divisor.f
 repeat' with_reducible first
  |exact ih0 ..
  |exact LeO.refl ..
  |exact LeO.none ..
  |refine LeO.ite ?_ ?_
  |refine LeO.bind ?_ (fun _=>?_)
theorem L_divisor.calls (k:Nat) (a0:Int) (a1:Int) (r:Int) (w:World) (H:L_divisor.f k a0 a1=some r):
  Calls Try.prog 65 #[.int .i64 a0,.int .i64 a1] w fun e w'=>e= .returned (.int .i64 r)∧Below w.heap.size w w':=by
 have HB:=m0 (Below.refl w.heap.size w);unfold L_divisor.f at H;have H':=m0 H;clear H;go_enter Try.func65,Try.ntmps65
 go_wp2
 repeat(go_quiet (fail);try go_wp2)
 go_loopg [0,1] k (fun kq v0 v1 w'=>∃ (x0_1:Int) (x1_1:Int),v0= .int .i64 x0_1∧v1= .int .i64 x1_1∧Aside0 (L_divisor.l0 kq x0_1 x1_1=some r)∧Aside0 (kq≤k)∧Aside0 (Below w.heap.size w w'))
 case atStart=>exact⟨(a0),(a1),rz,rz,H',⟨Nat.le_refl _⟩,⟨bz⟩⟩
 case round=>
  clear H';obtain⟨x0_1,x1_1,rfl,rfl,HA,HK1,HB⟩:=hrel
  cases gk with
  |zero=>exact absurd HA.out (by simp[L_divisor.l0])
  | succ k1=>
   have H:=HA.out;clear HA;simp only[L_divisor.l0]at H
   by_cases c3:x1_1=0
   ·rw [if_pos c3]at H;have c3b0:=beq_iff_eq.mpr c3;have c3b1:=bne_eq_false_iff_eq.mpr c3;clear c3;obtain⟨ji4,hji4⟩:∃ j_:Int,(mx x0_1 (wrap64 (-x0_1)))=j_:=⟨_,rfl⟩;replace H:(some ji4)=some r:=by first|(rw[hji4]at H;exact H)|(simp only[hji4]at H ⊢;exact H)
    have hji4_:(if x0_1<(wrap64 (-x0_1))then(wrap64 (-x0_1))else x0_1)=ji4:=hji4;obtain rfl:=Option.some.inj H
    go_wp2
    repeat(go_quiet (fail);try go_wp2)
    go_ret
    exact⟨by first|rfl|(simp[errW_none,errW_some]<;>rfl)|(simp only[← hji4];first|rfl|(simp[errW_none,errW_some]<;>rfl))|(simp[*,errW_none,errW_some]<;>rfl),by repeat(first|(with_reducible first|exact HB.out|apply below_alloc|apply pw_below_drewN|apply below_drew1)|exact HB.out)⟩
   ·rw [if_neg c3]at H;have c3b0:=beq_eq_false_iff_ne.mpr c3;have c3b1:=bne_iff_ne.mpr c3;have H':=m0 H;clear H
    go_wp2
    repeat(go_quiet (fail);try go_wp2)
    go_roundg k1
    case measure=>have:=HK1.out;omega
    case rel=>exact⟨(x1_1),(Int.tmod x0_1 x1_1),rz,rz,H',⟨by have:=HK1.out;omega⟩,⟨bz⟩⟩
end
section
def L_fraction.f (k:Nat) (a0:Int) (a1:Int):Option (Int×Int):=(L_divisor.f k a0 a1).bind fun t179=>(if t179=0 then(none)else(some (wrap64 (Int.tdiv a0 t179),wrap64 (Int.tdiv a1 t179))))
theorem L_fraction.mono:∀ a0 a1 k,LeO (L_fraction.f k a0 a1) (L_fraction.f (k+1) a0 a1):=by
 intro a0 a1 k;unfold L_fraction.f
 repeat' with_reducible first
  |exact L_divisor.mono ..
  |exact LeO.refl ..
  |exact LeO.none ..
  |refine LeO.ite ?_ ?_
  |refine LeO.bind ?_ (fun _=>?_)
def L_fraction.T2:Bool×List (List Nat×List Nat):=(true,[([],[]),([],[]),([0,1],[0,1]),([],[]),([],[]),([3,4],[3,4]),([2,5],[2,5]),([6,0,1,2,3,4,5,6],[6])])
def L_fraction.B2:List Nat:=[0,0,3,0,0,24,63,127]
theorem L_fraction.tab2:rtab .any (opsOf Try.f54 2)=L_fraction.T2:=by kernel_rfl
theorem L_fraction.bits2:waitsOk L_fraction.T2.2 L_fraction.B2=true:=by kernel_rfl
theorem L_fraction.calls (k:Nat) (a0:Int) (a1:Int) (r1:Int) (r2:Int) (w:World) (H:L_fraction.f k a0 a1=some (r1,r2)):
  Calls Try.prog 54 #[.int .i64 a0,.int .i64 a1] w fun e w'=>e= .returned (.agg #[.int .i64 r1,.int .i64 r2])∧Below w.heap.size w w':=by
 have hu53:=Try.underlying53;have HB:=m0 (Below.refl w.heap.size w);unfold L_fraction.f at H;replace H:=oa H;obtain⟨t179,A3,H⟩:=H;(try dsimp only at H)
 by_cases c4:t179=0
 ·rw [if_pos c4]at H;exact absurd H (by simp)
 ·rw [if_neg c4]at H;have c4b0:=beq_eq_false_iff_ne.mpr c4;have c4b1:=bne_iff_ne.mpr c4;simp only[Option.some.injEq,Prod.mk.injEq]at H;obtain⟨rfl,rfl⟩:=H;go_enter Try.func54,Try.ntmps54
  try go_wp2_with (first|((with_reducible refine ga 4 rfl ?_);refine be 4 53 #[.int .i64 0,.int .i64 0] ?_;intro gb178 hg w5 hbox hb;have BK178:=m0 hbox;have GE178:=gw w hg;replace HB:=sb HB hb;clear hb hbox hg)|((with_reducible refine gc 65 rfl ?_);refine gl (some 8) Try.func65 #[.int .i64 a0,.int .i64 a1] ?_;(with_reducible refine(L_divisor.calls k a0 a1 t179 _ A3.out).mono ?_);rintro e w6 ⟨rfl,hb⟩;refine⟨_,rfl,?_⟩;replace BK178:=bb BK178 hb;replace HB:=sb HB hb;(try clear hb)))
  replace BK178:=bd BK178;replace HB:=sd HB;refine start_ (n:=8) (S:=fun w'=>True) (ds:=[]) _ (by kernel_rfl) rfl rfl trivial (fun hH=>?_);refine with_tabW L_fraction.tab2 L_fraction.bits2 (fun HT_ HW_=>?_);generalize w6.drew=w7 at BK178 HB hH ⊢;refine pZ 0 (some 9) #[true,false,false,false,false,false,false,false] HT_ ?_;refine pZ 1 (some 10) #[true,true,false,false,false,false,false,false] HT_ ?_;refine pZ 2 (some 11) #[true,true,true,false,false,false,false,false] HT_ ?_;refine pZ 3 (some 12) #[true,true,true,true,false,false,false,false] HT_ ?_;refine pZ 4 (some 13) #[true,true,true,true,true,false,false,false] HT_ ?_;refine pZ 5 (some 14) #[true,true,true,true,true,true,false,false] HT_ ?_;refine pZ 6 (some 15) #[true,true,true,true,true,true,true,false] HT_ ?_;refine oneZ 7 (none) #[true,true,true,true,true,true,true,true] (o1 HT_) fun K hK=>?_;obtain⟨hs8,hfs8⟩:=q0 BK178;obtain⟨hs9,hfs9⟩:=q1 BK178;refine skip_ (w1:=?_) (by rfl) rfl ?_ ?_;rotate_left
  ·go_simp
   rfl
  refine hK.out _ _ trivial (fun hH=>?_);clear hK K;refine done_ (done_of HT_.out (by kernel_rfl)) ?_
  try go_wp2
  refine bodyPost_ret (results_cell_row rfl _ _ gb178 53 #[.int .i64 (wrap64 (Int.tdiv a0 t179)),.int .i64 (wrap64 (Int.tdiv a1 t179))] (0,0) _ rfl (bq BK178.out) Try.underlying53 rfl (by kernel_rfl)) rfl ?_;exact ez
end
end Go.Proofs.Ytggiijffaifajaa.A
