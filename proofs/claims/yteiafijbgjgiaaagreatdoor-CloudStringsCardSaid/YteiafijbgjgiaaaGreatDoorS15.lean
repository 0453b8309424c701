/- Walks of the program's functions (printed, made shorter), each with what it computes. -/
import Derived.Test.YteiafijbgjgiaaaGreatDoorS14
namespace Go.Proofs.YteiafijbgjgiaaaGreatDoor.A
set_option maxHeartbeats 8000000
set_option maxRecDepth 100000
open Go.RowKit Go.Proofs.YteiafijbgjgiaaaGreatDoorW.PrintWords Go.Proofs.YteiafijbgjgiaaaGreatDoorW.PrintLast Go.Proofs.YteiafijbgjgiaaaGreatDoorW.PrintMore
attribute [local go_sem] max2_int min2_int max_two min_two max_three min_three max_four min_four
set_option linter.unusedVariables false
set_option linter.unusedSimpArgs false
section
mutual
def L_UnsafeAt.l0:Nat→List (S101)→Int→List Int→Int→Int→Int→Int→Option (Int×Int)
  |0,_,_,_,_,_,_,_=>none
  |k+1,x6,x8,x32,x33,x34,x330000,x330001=>if x34<x33 then(if 0≤x34 then(if x34<(x32.length:Int)then((L_shots_in.f k x6 x330000 (rd x32 x34)).bind fun t344=>(if t344≤x330001 then(L_UnsafeAt.l0 k x6 (rd x32 x34) x32 x33 (wrap64 (x34+1)) x330000 x330001)else(L_UnsafeAt.l1 k x6 x8 (rd x32 x34) x330000 x330001)))else(none))else(none))else(some (0,12))
def L_UnsafeAt.l1:Nat→List (S101)→Int→Int→Int→Int→Option (Int×Int)
  |0,_,_,_,_,_=>none
  |k+1,x6,x8,x10,x330000,x330001=>if(wrap64 (x10-x8))>1 then((L_shots_in.f k x6 x330000 (wrap64 (Int.tdiv (wrap64 (x8+x10)) 2))).bind fun t345=>(if t345>x330001 then(L_UnsafeAt.l1 k x6 x8 (wrap64 (Int.tdiv (wrap64 (x8+x10)) 2)) x330000 x330001)else(L_UnsafeAt.l1 k x6 (wrap64 (Int.tdiv (wrap64 (x8+x10)) 2)) x10 x330000 x330001)))else(some (wrap64 (x10-1),0))
end
def L_UnsafeAt.f (k:Nat) (l0:List (S101)) (a1_0:Int) (a1_1:Int):Option (Int×Int):=(L_openShots.f k l0 a1_0).bind fun bt330=>((L_within.f a1_1 0 1000000000000).bind fun t334=>((L_unless.f t334 2).bind fun t335=>((L_first.f k (([bt330.2,t335]:List Int))).bind fun t339=>(if t339=0 then((L_shots_turns.f k bt330.1 a1_0).bind fun t340=>(L_UnsafeAt.l0 k bt330.1 0 t340 (t340.length:Int) 0 a1_0 a1_1))else(some (0,t339))))))
theorem L_UnsafeAt.mono_l:∀ k,(∀ y0 y1 y2 y3 y4 y5 y6,LeO (L_UnsafeAt.l0 k y0 y1 y2 y3 y4 y5 y6) (L_UnsafeAt.l0 (k+1) y0 y1 y2 y3 y4 y5 y6))∧(∀ y0 y1 y2 y3 y4,LeO (L_UnsafeAt.l1 k y0 y1 y2 y3 y4) (L_UnsafeAt.l1 (k+1) y0 y1 y2 y3 y4))
  |0=>⟨fun _ _ _ _ _ _ _ r h=>by simp[L_UnsafeAt.l0]at h,fun _ _ _ _ _ r h=>by simp[L_UnsafeAt.l1]at h⟩
  | k +1=>by
    obtain⟨ih0,ih1⟩:=L_UnsafeAt.mono_l k;refine⟨?_,?_⟩
    · intro y0 y1 y2 y3 y4 y5 y6;unfold L_UnsafeAt.l0
      have m1:=@L_first.mono;have m2:=@L_openShots.mono;have m3:=@L_shots_in.mono;have m4:=@L_shots_turns.mono;exact lz
    · intro y0 y1 y2 y3 y4;unfold L_UnsafeAt.l1
      have m1:=@L_first.mono;have m2:=@L_openShots.mono;have m3:=@L_shots_in.mono;have m4:=@L_shots_turns.mono;exact lz
theorem L_UnsafeAt.mono:∀ a0 a1 a2 k,LeO (L_UnsafeAt.f k a0 a1 a2) (L_UnsafeAt.f (k+1) a0 a1 a2):=by
  intro a0 a1 a2 k;obtain⟨ih0,ih1⟩:=L_UnsafeAt.mono_l k;unfold L_UnsafeAt.f
  have m1:=@L_first.mono;have m2:=@L_openShots.mono;have m3:=@L_shots_in.mono;have m4:=@L_shots_turns.mono;exact lz
def L_UnsafeAt.T9:Bool×List (List Nat×List Nat):=(true,[([],[]),([],[]),([1],[1]),([],[]),([0,2,3],[0,2,3]),([],[]),([5],[5]),([4,6],[4,6])])
def L_UnsafeAt.B9:List Nat:=[0,0,2,0,15,0,32,127]
theorem L_UnsafeAt.tab9:rtab .any (opsOf Tryz.f26 9)=L_UnsafeAt.T9:=by kernel_rfl
theorem L_UnsafeAt.bits9:waitsOk L_UnsafeAt.T9.2 L_UnsafeAt.B9=true:=by kernel_rfl
def L_UnsafeAt.T13:Bool×List (List Nat×List Nat):=(true,[([],[]),([],[]),([1],[1]),([],[]),([0,2,3],[0,2,3]),([],[]),([5],[5]),([4,6],[4,6])])
def L_UnsafeAt.B13:List Nat:=[0,0,2,0,15,0,32,127]
theorem L_UnsafeAt.tab13:rtab .any (opsOf Tryz.f26 13)=L_UnsafeAt.T13:=by kernel_rfl
theorem L_UnsafeAt.bits13:waitsOk L_UnsafeAt.T13.2 L_UnsafeAt.B13=true:=by kernel_rfl
theorem L_UnsafeAt.calls (k:Nat) (A0:Option Addr) (c0:Nat) (l0:List (S101)) (a1_0:Int) (a1_1:Int) (r1:Int) (r2:Int) (w:World) (hr0:Kd.C k101 w A0 l0.length l0) (hc0:l0.length≤c0) (H:L_UnsafeAt.f k l0 a1_0 a1_1=some (r1,r2)):
    Calls Tryz.prog 26 #[.slice A0 l0.length c0,.agg #[.int .i64 a1_0,.int .i64 a1_1]] w fun e w'=>e= .returned (.tuple #[.int .i64 r1,.int .i64 r2])∧Below w.heap.size w w':=by
  have hu57:=Tryz.underlying57;have HR0:=m0 hr0;have HC0:=m0 hc0;clear hr0 hc0;have HB:=m0 (Below.refl w.heap.size w);unfold L_UnsafeAt.f at H;replace H:=oa H;obtain⟨⟨t330,t333⟩,A3,H⟩:=H;(try dsimp only at H);replace H:=oa H;obtain⟨t334,A4,H⟩:=H;(try dsimp only at H);replace H:=oa H;obtain⟨t335,A5,H⟩:=H;(try dsimp only at H);obtain⟨y336,hy336⟩:∃ y_:List Int,y_=(([t333,t335]:List Int)):=⟨_,rfl⟩;replace H:((L_first.f k y336).bind fun t339=>(if t339=0 then((L_shots_turns.f k t330 a1_0).bind fun t340=>(L_UnsafeAt.l0 k t330 0 t340 (t340.length:Int) 0 a1_0 a1_1))else(some (0,t339))))=some (r1,r2):=hq hy336 H
  have Ny336:=m0 hy336;clear hy336;replace H:=oa H;obtain⟨t339,A6,H⟩:=H;(try dsimp only at H)
  by_cases c7:t339=0
  · rw [if_pos c7] at H;have c7b0:=beq_iff_eq.mpr c7;have c7b1:=bne_eq_false_iff_eq.mpr c7;clear c7;replace H:=oa H;obtain⟨t340,A8,H⟩:=H;(try dsimp only at H);have H':=m0 H;clear H;go_enter Tryz.func26,Tryz.ntmps26
    go_wp2_with (first|((with_reducible refine ga 3 rfl ?_);refine be 3 57 #[.int .i64 a1_0,.int .i64 a1_1] ?_;intro gb329 hg w9 hbox hb;have BK329:=m0 hbox;have GW329:=gw w hg;have GE329:=gw w hg;replace HB:=sb HB hb;clear hb hbox hg;obtain⟨hcz10_0,hcz10_1,hfz10_0,hfz10_1⟩:=b2 BK329)|((with_reducible refine gc 51 rfl ?_);refine gl (some 16) Tryz.func51 #[.slice A0 l0.length c0,.int .i64 a1_0] ?_;(with_reducible refine(L_openShots.calls k (fun k_=>k_<w.heap.size) _ _ l0 a1_0 t330 t333 _ ?side1 A3.out).mono ?_);(case side1=>exact Kd.V_mk HC0.out (Kd.F_below (Kd.C_F k101_heap HR0.out) bz));rintro e w11 ⟨v331,rfl,ho0,hb⟩;refine⟨_,rfl,?_⟩;have HO332:=hv w (fun k_=>k_≠gb329) ho0 (fun k_ hk_=>Or.elim hk_ (fun hs_=>fun e_=>Nat.not_le.2 hs_ (by rw[e_];exact GW329.out)) (fb BK329 ·));replace BK329:=bb BK329 hb;replace HB:=sb HB hb;(try clear hb);(try clear ho0);obtain⟨hcz12_0,hcz12_1,hfz12_0,hfz12_1⟩:=b2 BK329)|((with_reducible refine gc 46 rfl ?_);refine gl (some 22) Tryz.func46 #[.int .i64 a1_1,.int .i64 0,.int .i64 1000000000000] ?_;(with_reducible refine(L_within.calls a1_1 0 1000000000000 t334 _ A4.out).mono ?_);rintro e w' ⟨rfl,⟨nd,rfl⟩⟩;refine⟨_,rfl,?_⟩)|((with_reducible refine gc 45 rfl ?_);refine gl (some 23) Tryz.func45 #[.bool t334,.int .i64 2] ?_;(with_reducible refine(L_unless.calls t334 2 t335 _ A5.out).mono ?_);rintro e w' ⟨rfl,⟨nd,rfl⟩⟩;refine⟨_,rfl,?_⟩)|((with_reducible refine ga 24 rfl ?_);refine Kd.R_lit (Kd.int .i64) _ 30 ?hg (N:=24) ?hd (xs:=([t333,t335]:List Int)) (inner:=[.int .i64 t333,.int .i64 t335]) (ok:=fun _=>True) (okp:=fun _=>True) ?hr ?hp (fun _ hk=>hk) trivial (Below.refl _ _) (Nat.le_refl _) (by simp) ?_;(case hd=>rfl);(case hg=>rfl);(case hr=>first|(go_simp;done)|(go_simp;rfl));(case hp=>exact(Reps.one (ki t333) (Reps.one (ki t335) (Reps.none _ _))));intro v337 w13 ho14 hb hg_ hnew_;clear hg_ hnew_;(first|rw[← Ny336.out]at ho14|(simp only[Int.reduceToNat]at ho14;rw[← Ny336.out]at ho14));replace HO332:=m0 (Kd.V_elder' (va HO332.out) (Kd.R_base ho14) hb);have HO338:=m0 (Kd.R_lower ho14 (below_size bz));replace BK329:=bb BK329 hb;replace HB:=sb HB hb;clear hb ho14;obtain⟨Ao15,co15,eo15⟩:=Kd.R_slice HO338.out;subst eo15)|((with_reducible refine gc 40 rfl ?_);refine gl (some 25) Tryz.func40 #[.slice Ao15 y336.length co15] ?_;(with_reducible refine(L_first.calls k _ _ y336 t339 _ ?side1 ?side2 A6.out).mono ?_);(case side1=>exact bc (Kd.R_reads' HO338.out).2.2);(case side2=>exact(Kd.R_reads' HO338.out).2.1);rintro e w' ⟨rfl,⟨nd,rfl⟩⟩;refine⟨_,rfl,?_⟩;obtain⟨hcz16_0,hcz16_1,hfz16_0,hfz16_1⟩:=b2 BK329;obtain⟨Ao17,co17,eo17⟩:=Kd.V_slice HO332.out;subst eo17)|((with_reducible refine gc 52 rfl ?_);refine gl (some 32) Tryz.func52 #[.slice Ao17 t330.length co17,.int .i64 a1_0] ?_;(with_reducible refine(L_shots_turns.calls k _ _ t330 a1_0 t340 _ ?side1 ?side2 A8.out).mono ?_);(case side1=>exact bc (Kd.V_reads' HO332.out).2.2);(case side2=>exact(Kd.V_reads' HO332.out).2.1);rintro e w18 ⟨v341,rfl,ho0,hb⟩;refine⟨_,rfl,?_⟩;replace HO332:=m0 (Kd.V_elder' (va HO332.out) (Kd.R_base ho0) hb);replace HO338:=rb HO338 hb;have HO342:=m0 (Kd.R_lower ho0 (below_size bz));replace BK329:=bb BK329 hb;replace HB:=sb HB hb;(try clear hb);(try clear ho0);obtain⟨Ao19,co19,eo19⟩:=Kd.R_slice HO342.out;subst eo19))
    go_loopg [8,34] k (fun kq v8 v34 w'=>∃ (x8_1:Int) (x34_1:Int),v8= .int .i64 x8_1∧v34= .int .i64 x34_1∧Aside0 (L_UnsafeAt.l0 kq t330 x8_1 t340 (t340.length:Int) x34_1 a1_0 a1_1=some (r1,r2))∧Aside0 (kq≤k)∧Aside0 (Kd.V k101 101 w' w.heap.size (fun k_=>some k_≠((.slice Ao19 t340.length co19):Value).ownBlock∧k_≠gb329) (.slice Ao17 t330.length co17) t330)∧Aside0 (Kd.R (Kd.int .i64) 3 w' w.heap.size (fun _=>True) (.slice Ao19 t340.length co19) t340)∧Aside0 (w'.heap[gb329]?=some (.cells #[.int .i64 a1_0,.int .i64 a1_1] 57 (0,0)))∧Aside0 (Below w.heap.size w w'))
    case atStart=>exact⟨(0),(0),rz,rz,H',⟨Nat.le_refl _⟩,⟨by (with_reducible repeat(first|apply Kd.V_alloc|apply Kd.V_drewN|apply Kd.V_drew));exact Kd.V_mono HO332.out (fun _ hk=>⟨hk.2,hk.1.1⟩)⟩,⟨br HO342.out⟩,⟨bk BK329.out⟩,⟨bz⟩⟩
    case round =>
      clear H'
      try clear hcz10_0
      try clear hcz10_1
      try clear hcz12_0
      try clear hcz12_1
      try clear hcz16_0
      try clear hcz16_1
      try clear hfz10_0
      try clear hfz10_1
      try clear hfz12_0
      try clear hfz12_1
      try clear hfz16_0
      try clear hfz16_1
      obtain⟨x8_1,x34_1,rfl,rfl,HA,HK1,HO_6,HO_32,BK329,HB⟩:=hrel
      cases gk with
      |zero=>exact absurd HA.out (by simp[L_UnsafeAt.l0])
      | succ k1 =>
        have H:=HA.out;clear HA;simp only[L_UnsafeAt.l0]at H
        by_cases c20:x34_1<(t340.length:Int)
        · rw [if_pos c20]at H;have c20b0:=decide_eq_true c20;clear c20
          by_cases c21:0≤x34_1
          · rw [if_pos c21]at H;have c21b0:=decide_eq_true c21;clear c21
            by_cases c22:x34_1<(t340.length:Int)
            · rw [if_pos c22]at H;have c22b0:=decide_eq_true c22;clear c22;replace H:=oa H;obtain⟨t344,A23,H⟩:=H;(try dsimp only at H);have p343:0≤(x34_1:Int):=od;have q343:x34_1<(t340.length:Int):=od;obtain⟨ad343,e343,hx343_0⟩:=Kd.at_int (Kd.R_reads' HO_32.out).2.2 x34_1 p343 q343
              cases e343
              replace p343:=eq_true p343;replace q343:=eq_true q343
              try go_wp2
              replace HO_6:=m0 (Kd.V_drew HO_6.out);replace HO_32:=m0 (Kd.R_drew HO_32.out);replace BK329:=bd BK329;replace HB:=sd HB;refine start_ (n:=8) (S:=fun w'=>w'.cell? ⟨gb329,0,none⟩=some (.int .i64 a1_0)∧w'.cell? ⟨gb329,1,none⟩=some (.int .i64 a1_1)) (ds:=[]) _ (by kernel_rfl) rfl rfl cz (fun hH=>?_);refine with_tabW L_UnsafeAt.tab9 L_UnsafeAt.bits9 (fun HT_ HW_=>?_);generalize wr.drew=w25 at HO_6 HO_32 BK329 HB hH ⊢;refine pZ 0 (some 38) (bs 8 1) HT_ ?_;refine pZ 1 (some 39) (bs 8 3) HT_ ?_;refine pZ 3 (some 41) (bs 8 11) HT_ ?_;refine pZ 5 (some 43) (bs 8 43) HT_ ?_;refine takeZ 2 (some 40) (bs 8 47) (tw HT_ HW_) hH ?_;refine takeZ 6 (some 44) (bs 8 111) (tw HT_ HW_) hH ?_;refine oneZ 4 (some 42) (bs 8 127) (o1 HT_) fun K hK=>?_;refine gz Tryz.func53 #[.slice Ao17 t330.length co17,.int .i64 a1_0,.int .i64 (rd t340 x34_1)] ?_
              with_reducible refine(L_shots_in.calls k1 _ _ t330 a1_0 (rd t340 x34_1) t344 _ ?side1 ?side2 A23.out).mono ?_
              (case side1=>exact bc (Kd.V_reads' HO_6.out).2.2)
              (case side2=>exact(Kd.V_reads' HO_6.out).2.1)
              rintro e w26 ⟨rfl,hb⟩;refine⟨_,rfl,?_⟩;replace HO_6:=vb HO_6 hb;replace HO_32:=rb HO_32 hb;replace BK329:=bb BK329 hb;replace HB:=sb HB hb;(try clear hb);refine hK.out _ _ cz (fun hH=>?_);clear hK K;refine nz 42 ?_;refine pZ 7 (some 45) (bs 8 255) HT_ ?_;refine done_ (done_of HT_.out (by kernel_rfl)) ?_
              by_cases c24:t344≤a1_1
              · rw[if_pos c24]at H;have c24b0:=decide_eq_true c24;clear c24;have H':=m0 H;clear H;(try simp only[c24b0])
                try go_wp2
                go_roundg k1
                case measure=>have:=HK1.out;omega
                case rel=>exact⟨(rd t340 x34_1),(wrap64 (x34_1+1)),rz,rz,H',⟨by have:=HK1.out;omega⟩,⟨by (with_reducible repeat(first|apply Kd.V_alloc|apply Kd.V_drewN|apply Kd.V_drew));exact HO_6.out⟩,⟨br HO_32.out⟩,⟨bk BK329.out⟩,⟨bz⟩⟩
              · rw [if_neg c24]at H;have c24b0:=decide_eq_false c24;clear c24;have H':=m0 H;clear H;(try simp only[c24b0])
                try go_wp2
                go_loopg [8,10] k1 (fun kq v8 v10 w'=>∃ (x8_2:Int) (x10_2:Int),v8= .int .i64 x8_2∧v10= .int .i64 x10_2∧Aside0 (L_UnsafeAt.l1 kq t330 x8_2 x10_2 a1_0 a1_1=some (r1,r2))∧Aside0 (kq≤k1)∧Aside0 (Kd.V k101 101 w' w.heap.size (fun k_=>k_≠gb329) (.slice Ao17 t330.length co17) t330)∧Aside0 (w'.heap[gb329]?=some (.cells #[.int .i64 a1_0,.int .i64 a1_1] 57 (0,0)))∧Aside0 (Below w.heap.size w w'))
                case atStart=>exact⟨(x8_1),(rd t340 x34_1),rz,rz,H',⟨Nat.le_refl _⟩,⟨by (with_reducible repeat(first|apply Kd.V_alloc|apply Kd.V_drewN|apply Kd.V_drew));exact Kd.V_mono HO_6.out (fun _ hk=>hk.2)⟩,⟨bk BK329.out⟩,⟨bz⟩⟩
                case round=>
                  clear H'
                  try clear hx3
                  try clear hcz10_0
                  try clear hcz10_1
                  try clear hcz12_0
                  try clear hcz12_1
                  try clear hcz16_0
                  try clear hcz16_1
                  try clear hfz10_0
                  try clear hfz10_1
                  try clear hfz12_0
                  try clear hfz12_1
                  try clear hfz16_0
                  try clear hfz16_1
                  try clear hx343_0
                  obtain⟨x8_2,x10_2,rfl,rfl,HA,HK2,HO_6,BK329,HB⟩:=hrel
                  cases gk with
                  |zero=>exact absurd HA.out (by simp[L_UnsafeAt.l1])
                  | succ k2=>
                    have H:=HA.out;clear HA;simp only[L_UnsafeAt.l1]at H
                    by_cases c29:(wrap64 (x10_2-x8_2))>1
                    · rw[if_pos c29]at H;have c29b0:=decide_eq_true c29;clear c29;replace H:=oa H;obtain⟨t345,A30,H⟩:=H;(try dsimp only at H)
                      try go_wp2
                      replace HO_6:=m0 (Kd.V_drew HO_6.out);replace BK329:=bd BK329;replace HB:=sd HB;refine start_ (n:=8) (S:=fun w'=>w'.cell? ⟨gb329,0,none⟩=some (.int .i64 a1_0)∧w'.cell? ⟨gb329,1,none⟩=some (.int .i64 a1_1)) (ds:=[]) _ (by kernel_rfl) rfl rfl cz (fun hH=>?_);refine with_tabW L_UnsafeAt.tab13 L_UnsafeAt.bits13 (fun HT_ HW_=>?_);generalize wr.drew=w32 at HO_6 BK329 HB hH ⊢;refine pZ 0 (some 55) (bs 8 1) HT_ ?_;refine pZ 1 (some 56) (bs 8 3) HT_ ?_;refine pZ 3 (some 58) (bs 8 11) HT_ ?_;refine pZ 5 (some 60) (bs 8 43) HT_ ?_;refine takeZ 2 (some 57) (bs 8 47) (tw HT_ HW_) hH ?_;refine takeZ 6 (some 61) (bs 8 111) (tw HT_ HW_) hH ?_;refine oneZ 4 (some 59) (bs 8 127) (o1 HT_) fun K hK=>?_;refine gz Tryz.func53 #[.slice Ao17 t330.length co17,.int .i64 a1_0,.int .i64 (wrap64 (Int.tdiv (wrap64 (x8_2+x10_2)) 2))] ?_
                      with_reducible refine(L_shots_in.calls k2 _ _ t330 a1_0 (wrap64 (Int.tdiv (wrap64 (x8_2+x10_2)) 2)) t345 _ ?side1 ?side2 A30.out).mono ?_
                      (case side1=>exact bc (Kd.V_reads' HO_6.out).2.2)
                      (case side2=>exact(Kd.V_reads' HO_6.out).2.1)
                      rintro e w33 ⟨rfl,hb⟩;refine⟨_,rfl,?_⟩;replace HO_6:=vb HO_6 hb;replace BK329:=bb BK329 hb;replace HB:=sb HB hb;(try clear hb);refine hK.out _ _ cz (fun hH=>?_);clear hK K;refine nz 59 ?_;refine pZ 7 (some 62) (bs 8 255) HT_ ?_;refine done_ (done_of HT_.out (by kernel_rfl)) ?_
                      by_cases c31:t345>a1_1
                      · rw[if_pos c31]at H;have c31b0:=decide_eq_true c31;clear c31;have H':=m0 H;clear H;(try simp only[c31b0])
                        try go_wp2
                        go_roundg k2
                        case measure=>have:=HK1.out;have:=HK2.out;omega
                        case rel=>exact⟨(x8_2),(wrap64 (Int.tdiv (wrap64 (x8_2+x10_2)) 2)),rz,rz,H',⟨by have:=HK1.out;have:=HK2.out;omega⟩,⟨by (with_reducible repeat(first|apply Kd.V_alloc|apply Kd.V_drewN|apply Kd.V_drew));exact HO_6.out⟩,⟨bk BK329.out⟩,⟨bz⟩⟩
                      · rw[if_neg c31]at H;have c31b0:=decide_eq_false c31;clear c31;have H':=m0 H;clear H;(try simp only[c31b0])
                        try go_wp2
                        go_roundg k2
                        case measure=>have:=HK1.out;have:=HK2.out;omega
                        case rel=>exact⟨(wrap64 (Int.tdiv (wrap64 (x8_2+x10_2)) 2)),(x10_2),rz,rz,H',⟨by have:=HK1.out;have:=HK2.out;omega⟩,⟨by (with_reducible repeat(first|apply Kd.V_alloc|apply Kd.V_drewN|apply Kd.V_drew));exact HO_6.out⟩,⟨bk BK329.out⟩,⟨bz⟩⟩
                    · rw[if_neg c29]at H;have c29b0:=decide_eq_false c29;clear c29;simp only[Option.some.injEq,Prod.mk.injEq]at H;obtain⟨rfl,rfl⟩:=H
                      go_wp2
                      go_ret2
                      exact ez
            · rw[if_neg c22]at H;exact absurd H (by simp)
          · rw[if_neg c21]at H;exact absurd H (by simp)
        · rw[if_neg c20]at H;have c20b0:=decide_eq_false c20;clear c20;simp only[Option.some.injEq,Prod.mk.injEq]at H;obtain⟨rfl,rfl⟩:=H
          go_wp2
          go_ret2
          exact ez
  · rw[if_neg c7]at H;have c7b0:=beq_eq_false_iff_ne.mpr c7;have c7b1:=bne_iff_ne.mpr c7;simp only[Option.some.injEq,Prod.mk.injEq]at H;obtain⟨rfl,rfl⟩:=H;go_enter Tryz.func26,Tryz.ntmps26
    go_wp2_with (first|((with_reducible refine ga 3 rfl ?_);refine be 3 57 #[.int .i64 a1_0,.int .i64 a1_1] ?_;intro gb329 hg w36 hbox hb;have BK329:=m0 hbox;have GW329:=gw w hg;have GE329:=gw w hg;replace HB:=sb HB hb;clear hb hbox hg;obtain⟨_,_,_,_⟩:=b2 BK329)|((with_reducible refine gc 51 rfl ?_);refine gl (some 16) Tryz.func51 #[.slice A0 l0.length c0,.int .i64 a1_0] ?_;(with_reducible refine(L_openShots.calls k (fun k_=>k_<w.heap.size) _ _ l0 a1_0 t330 t333 _ ?side1 A3.out).mono ?_);(case side1=>exact Kd.V_mk HC0.out (Kd.F_below (Kd.C_F k101_heap HR0.out) bz));rintro e w38 ⟨v331,rfl,ho0,hb⟩;refine⟨_,rfl,?_⟩;have HO332:=hv w (fun k_=>k_≠gb329) ho0 (fun k_ hk_=>Or.elim hk_ (fun hs_=>fun e_=>Nat.not_le.2 hs_ (by rw[e_];exact GW329.out)) (fb BK329 ·));replace BK329:=bb BK329 hb;replace HB:=sb HB hb;(try clear hb);(try clear ho0);obtain⟨_,_,_,_⟩:=b2 BK329)|((with_reducible refine gc 46 rfl ?_);refine gl (some 22) Tryz.func46 #[.int .i64 a1_1,.int .i64 0,.int .i64 1000000000000] ?_;(with_reducible refine(L_within.calls a1_1 0 1000000000000 t334 _ A4.out).mono ?_);rintro e w' ⟨rfl,⟨nd,rfl⟩⟩;refine⟨_,rfl,?_⟩)|((with_reducible refine gc 45 rfl ?_);refine gl (some 23) Tryz.func45 #[.bool t334,.int .i64 2] ?_;(with_reducible refine(L_unless.calls t334 2 t335 _ A5.out).mono ?_);rintro e w' ⟨rfl,⟨nd,rfl⟩⟩;refine⟨_,rfl,?_⟩)|((with_reducible refine ga 24 rfl ?_);refine Kd.R_lit (Kd.int .i64) _ 30 ?hg (N:=24) ?hd (xs:=([t333,t335]:List Int)) (inner:=[.int .i64 t333,.int .i64 t335]) (ok:=fun _=>True) (okp:=fun _=>True) ?hr ?hp (fun _ hk=>hk) trivial (Below.refl _ _) (Nat.le_refl _) (by simp) ?_;(case hd=>rfl);(case hg=>rfl);(case hr=>first|(go_simp;done)|(go_simp;rfl));(case hp=>exact(Reps.one (ki t333) (Reps.one (ki t335) (Reps.none _ _))));intro v337 w40 ho41 hb hg_ hnew_;clear hg_ hnew_;(first|rw[← Ny336.out]at ho41|(simp only[Int.reduceToNat]at ho41;rw[← Ny336.out]at ho41));replace HO332:=m0 (Kd.V_elder' (va HO332.out) (Kd.R_base ho41) hb);have HO338:=m0 (Kd.R_lower ho41 (below_size bz));replace BK329:=bb BK329 hb;replace HB:=sb HB hb;clear hb ho41;obtain⟨Ao42,co42,eo42⟩:=Kd.R_slice HO338.out;subst eo42)|((with_reducible refine gc 40 rfl ?_);refine gl (some 25) Tryz.func40 #[.slice Ao42 y336.length co42] ?_;(with_reducible refine(L_first.calls k _ _ y336 t339 _ ?side1 ?side2 A6.out).mono ?_);(case side1=>exact bc (Kd.R_reads' HO338.out).2.2);(case side2=>exact(Kd.R_reads' HO338.out).2.1);rintro e w' ⟨rfl,⟨nd,rfl⟩⟩;refine⟨_,rfl,?_⟩))
    go_ret2
    exact ez
end
section
theorem eqA60 (d:Nat) (w:World) (x0 y0:Int) (x1 y1:Int):
  (Op.equalIn (d+2) 60 (.agg #[.int .i64 x0,.int .i64 x1]) (.agg #[.int .i64 y0,.int .i64 y1])).run Tryz.prog w= .ok (x0==y0 && (x1==y1)) w:=by
 refine eqA_of Tryz.underlying60 (by kernel_rfl) ?_;refine eqf_cons (by rfl) (by go_simp;rfl) (by go_simp;rfl) (by go_simp) ?_;exact eqf_last (by rfl) (by go_simp;rfl) (by go_simp;rfl) (by go_simp)
end
section
attribute [local go_sem high] eqA60
def Bs_Fracs.l0:Nat→List (S60)→List (S60)→Int→Option (Bool)
 |0,_,_,_=>none
 |k+1,x0,x1,x5=>if x5<(x0.length:Int)then(if 0≤x5 then(if x5<(x1.length:Int)then(if(!(((rd_T60 x0 x5).f0)==((rd_T60 x1 x5).f0)) || (!(((rd_T60 x0 x5).f1)==((rd_T60 x1 x5).f1))))=true then(some false)else(Bs_Fracs.l0 k x0 x1 (wrap64 (x5+1))))else(none))else(none))else(some true)
def Bs_Fracs.f (k:Nat) (l0:List (S60)) (l1:List (S60)):Option (Bool):=if(l0.length:Int)=(l1.length:Int)then(Bs_Fracs.l0 k l0 l1 0)else(some false)
theorem Bs_Fracs.mono_l:∀ k,(∀ y0 y1 y2,LeO (Bs_Fracs.l0 k y0 y1 y2) (Bs_Fracs.l0 (k+1) y0 y1 y2))
 |0=>fun _ _ _ r h=>by simp[Bs_Fracs.l0]at h
 | k+1=>by
  have ih0:=Bs_Fracs.mono_l k
  ·intro y0 y1 y2;unfold Bs_Fracs.l0
   exact lz
theorem Bs_Fracs.mono:∀ a0 a1 k,LeO (Bs_Fracs.f k a0 a1) (Bs_Fracs.f (k+1) a0 a1):=by
 intro a0 a1 k;have ih0:=Bs_Fracs.mono_l k;unfold Bs_Fracs.f
 exact lz
theorem Bs_Fracs.calls (k:Nat) (A0:Option Addr) (c0:Nat) (l0:List (S60)) (A1:Option Addr) (c1:Nat) (l1:List (S60)) (r:Bool) (w:World) (hr0:Kd.C k60 w A0 l0.length l0) (hc0:l0.length≤c0) (hr1:Kd.C k60 w A1 l1.length l1) (hc1:l1.length≤c1) (H:Bs_Fracs.f k l0 l1=some r):
  Calls Tryz.prog 27 #[.slice A0 l0.length c0,.slice A1 l1.length c1] w fun e w'=>e= .returned (.bool r)∧Drawn0 w w':=by
 have hu60:=Tryz.underlying60;have HR0:=m0 hr0;have HC0:=m0 hc0;clear hr0 hc0;have HR1:=m0 hr1;have HC1:=m0 hc1;clear hr1 hc1;unfold Bs_Fracs.f at H
 by_cases c3:(l0.length:Int)=(l1.length:Int)
 ·rw [if_pos c3]at H;have c3b0:=beq_iff_eq.mpr c3;have c3b1:=bne_eq_false_iff_eq.mpr c3;have c3b2:(l0.length==l1.length)=true:=by first|simpa using c3|(simp at c3 ⊢;omega)
  clear c3;have H':=m0 H;clear H;go_enter Tryz.func27,Tryz.ntmps27
  go_wp2
  repeat(go_quiet (fail);try go_wp2)
  go_loopg [5] k (fun kq v5 w'=>∃ (x5_1:Int),v5= .int .i64 x5_1∧Aside0 (Bs_Fracs.l0 kq l0 l1 x5_1=some r)∧Aside0 (kq≤k)∧Drawn0 w w')
  case atStart=>exact⟨(0),rz,H',⟨Nat.le_refl _⟩,dz⟩
  case round=>
   clear H';obtain⟨x5_1,rfl,HA,HK1,⟨m1,rfl⟩⟩:=hrel
   cases gk with
   |zero=>exact absurd HA.out (by simp[Bs_Fracs.l0])
   | succ k1=>
    have H:=HA.out;clear HA;simp only[Bs_Fracs.l0]at H
    by_cases c4:x5_1<(l0.length:Int)
    ·rw [if_pos c4]at H;have c4b0:=decide_eq_true c4;clear c4
     by_cases c5:0≤x5_1
     ·rw [if_pos c5]at H;have c5b0:=decide_eq_true c5;clear c5
      by_cases c6:x5_1<(l1.length:Int)
      ·rw [if_pos c6]at H;have c6b0:=decide_eq_true c6;clear c6;have p346:0≤(x5_1:Int):=od;have q346:x5_1<(l0.length:Int):=od;obtain⟨ad346,e346,hx346_0,hx346_1⟩:=at_T60 HR0.out x5_1 p346 q346
       cases e346
       replace p346:=eq_true p346;replace q346:=eq_true q346;have p347:0≤(x5_1:Int):=od;have q347:x5_1<(l1.length:Int):=od;obtain⟨ad347,e347,hx347_0,hx347_1⟩:=at_T60 HR1.out x5_1 p347 q347
       cases e347
       replace p347:=eq_true p347;replace q347:=eq_true q347
       by_cases c7:(!(((rd_T60 l0 x5_1).f0)==((rd_T60 l1 x5_1).f0)) || (!(((rd_T60 l0 x5_1).f1)==((rd_T60 l1 x5_1).f1))))=true
       ·rw [if_pos c7]at H;have c7b0:(!(((rd_T60 l0 x5_1).f0)==((rd_T60 l1 x5_1).f0)) || (!(((rd_T60 l0 x5_1).f1)==((rd_T60 l1 x5_1).f1))))=true:=c7;clear c7;obtain rfl:=Option.some.inj H
        go_wp2
        repeat(go_quiet (fail);try go_wp2)
        go_ret
        exact⟨rz,dz⟩
       ·rw [if_neg c7]at H;have c7b0:(!(((rd_T60 l0 x5_1).f0)==((rd_T60 l1 x5_1).f0)) || (!(((rd_T60 l0 x5_1).f1)==((rd_T60 l1 x5_1).f1))))=false:=by simpa using c7
        clear c7;have H':=m0 H;clear H
        go_wp2
        repeat(go_quiet (fail);try go_wp2)
        go_roundg k1
        case measure=>have:=HK1.out;omega
        case rel=>exact⟨(wrap64 (x5_1+1)),rz,H',⟨by have:=HK1.out;omega⟩,dz⟩
      ·rw [if_neg c6]at H;exact absurd H (by simp)
     ·rw [if_neg c5]at H;exact absurd H (by simp)
    ·rw [if_neg c4]at H;have c4b0:=decide_eq_false c4;clear c4;obtain rfl:=Option.some.inj H
     go_wp2
     repeat(go_quiet (fail);try go_wp2)
     go_ret
     exact⟨rz,dz⟩
 ·rw [if_neg c3]at H;have c3b0:=beq_eq_false_iff_ne.mpr c3;have c3b1:=bne_iff_ne.mpr c3;have c3b2:(l0.length==l1.length)=false:=by first|simpa using c3|(simp at c3 ⊢;omega)
  obtain rfl:=Option.some.inj H;go_enter Tryz.func27,Tryz.ntmps27
  go_wp2
  repeat(go_quiet (fail);try go_wp2)
  go_ret
  exact⟨rz,dz⟩
end
section
def Lw_awake.f (k:Nat)  :Option (Bool):=(L_Undone.f k (([10,0,45,45]:List Int)) 100).bind fun bt351=>((L_SegmentsOf.f k (([1,1,9,9]:List Int)) 3).bind fun bt358=>((Lw_Layers.f).bind fun t363=>((L_CeilingOf.f k t363 5).bind fun bt366=>((Lw_Shots.f).bind fun t368=>((L_ExposureOf.f k t368 2).bind fun bt371=>((Lw_Shots.f).bind fun t373=>((L_UnsafeAt.f k t373 2 7).bind fun bt376=>(if bt351.2=0 then((Bs_Fracs.f k bt351.1 (([(⟨1,10⟩:S60),(⟨0,1⟩:S60),(⟨1,2⟩:S60),(⟨1,1⟩:S60)]:List (S60)))).bind fun t381=>(if t381=true then(if bt358.2.2=0 then((Bs_Ints.f k bt358.1 (([0,2]:List Int))).bind fun t385=>(if t385=true then(if bt358.2.1=6 then(if bt366.2=0 then(if bt366.1=500 then(if bt371.2=0 then(if bt371.1=10 then(if bt376.2=0 then(some (bt376.1==2))else(none))else(none))else(none))else(none))else(none))else(none))else(none)))else(none))else(none)))else(none)))))))))
theorem Lw_awake.mono:∀ k,LeO (Lw_awake.f k ) (Lw_awake.f (k+1) ):=by
 intro  k;unfold Lw_awake.f
 have m1:=@L_CeilingOf.mono;have m2:=@L_ExposureOf.mono;have m3:=@L_SegmentsOf.mono;have m4:=@L_Undone.mono;have m5:=@L_UnsafeAt.mono;have m6:=@Bs_Fracs.mono;have m7:=@Bs_Ints.mono;exact lz
theorem Lw_awake.calls (k:Nat)  (r:Bool) (w:World) (H:Lw_awake.f k  =some r):
  Calls Tryz.prog 4 #[] w fun e w'=>e= .returned (.bool r)∧Below w.heap.size w w':=by
 have hu57:=Tryz.underlying57;have hu60:=Tryz.underlying60;have HB:=m0 (Below.refl w.heap.size w);unfold Lw_awake.f at H;obtain⟨y348,hy348⟩:∃ y_:List Int,y_=(([10,0,45,45]:List Int)):=⟨_,rfl⟩;replace H:((L_Undone.f k y348 100).bind fun bt351=>((L_SegmentsOf.f k (([1,1,9,9]:List Int)) 3).bind fun bt358=>((Lw_Layers.f).bind fun t363=>((L_CeilingOf.f k t363 5).bind fun bt366=>((Lw_Shots.f).bind fun t368=>((L_ExposureOf.f k t368 2).bind fun bt371=>((Lw_Shots.f).bind fun t373=>((L_UnsafeAt.f k t373 2 7).bind fun bt376=>(if bt351.2=0 then((Bs_Fracs.f k bt351.1 (([(⟨1,10⟩:S60),(⟨0,1⟩:S60),(⟨1,2⟩:S60),(⟨1,1⟩:S60)]:List (S60)))).bind fun t381=>(if t381=true then(if bt358.2.2=0 then((Bs_Ints.f k bt358.1 (([0,2]:List Int))).bind fun t385=>(if t385=true then(if bt358.2.1=6 then(if bt366.2=0 then(if bt366.1=500 then(if bt371.2=0 then(if bt371.1=10 then(if bt376.2=0 then(some (bt376.1==2))else(none))else(none))else(none))else(none))else(none))else(none))else(none)))else(none))else(none)))else(none))))))))))=some r:=hq hy348 H
 have Ny348:=m0 hy348;clear hy348;replace H:=oa H;obtain⟨⟨t351,t352⟩,A1,H⟩:=H;(try dsimp only at H);obtain⟨y355,hy355⟩:∃ y_:List Int,y_=(([1,1,9,9]:List Int)):=⟨_,rfl⟩;replace H:((L_SegmentsOf.f k y355 3).bind fun bt358=>((Lw_Layers.f).bind fun t363=>((L_CeilingOf.f k t363 5).bind fun bt366=>((Lw_Shots.f).bind fun t368=>((L_ExposureOf.f k t368 2).bind fun bt371=>((Lw_Shots.f).bind fun t373=>((L_UnsafeAt.f k t373 2 7).bind fun bt376=>(if t352=0 then((Bs_Fracs.f k t351 (([(⟨1,10⟩:S60),(⟨0,1⟩:S60),(⟨1,2⟩:S60),(⟨1,1⟩:S60)]:List (S60)))).bind fun t381=>(if t381=true then(if bt358.2.2=0 then((Bs_Ints.f k bt358.1 (([0,2]:List Int))).bind fun t385=>(if t385=true then(if bt358.2.1=6 then(if bt366.2=0 then(if bt366.1=500 then(if bt371.2=0 then(if bt371.1=10 then(if bt376.2=0 then(some (bt376.1==2))else(none))else(none))else(none))else(none))else(none))else(none))else(none)))else(none))else(none)))else(none)))))))))=some r:=hq hy355 H
 have Ny355:=m0 hy355;clear hy355;replace H:=oa H;obtain⟨⟨t358,t361,t362⟩,A2,H⟩:=H;(try dsimp only at H);replace H:=oa H;obtain⟨t363,A3,H⟩:=H;(try dsimp only at H);replace H:=oa H;obtain⟨⟨t366,t367⟩,A4,H⟩:=H;(try dsimp only at H);replace H:=oa H;obtain⟨t368,A5,H⟩:=H;(try dsimp only at H);replace H:=oa H;obtain⟨⟨t371,t372⟩,A6,H⟩:=H;(try dsimp only at H);replace H:=oa H;obtain⟨t373,A7,H⟩:=H;(try dsimp only at H);replace H:=oa H;obtain⟨⟨t376,t377⟩,A8,H⟩:=H;(try dsimp only at H)
 by_cases c9:t352=0
 ·rw [if_pos c9]at H;have c9b0:=beq_iff_eq.mpr c9;have c9b1:=bne_eq_false_iff_eq.mpr c9;clear c9;obtain⟨y378,hy378⟩:∃ y_:List (S60),y_=(([(⟨1,10⟩:S60),(⟨0,1⟩:S60),(⟨1,2⟩:S60),(⟨1,1⟩:S60)]:List (S60))):=⟨_,rfl⟩;replace H:((Bs_Fracs.f k t351 y378).bind fun t381=>(if t381=true then(if t362=0 then((Bs_Ints.f k t358 (([0,2]:List Int))).bind fun t385=>(if t385=true then(if t361=6 then(if t367=0 then(if t366=500 then(if t372=0 then(if t371=10 then(if t377=0 then(some (t376==2))else(none))else(none))else(none))else(none))else(none))else(none))else(none)))else(none))else(none)))=some r:=hq hy378 H
  have Ny378:=m0 hy378;clear hy378;replace H:=oa H;obtain⟨t381,A10,H⟩:=H;(try dsimp only at H)
  by_cases c11:t381=true
  ·subst c11;rw[if_pos rfl]at H
   by_cases c12:t362=0
   ·rw [if_pos c12]at H;have c12b0:=beq_iff_eq.mpr c12;have c12b1:=bne_eq_false_iff_eq.mpr c12;clear c12;obtain⟨y382,hy382⟩:∃ y_:List Int,y_=(([0,2]:List Int)):=⟨_,rfl⟩;replace H:((Bs_Ints.f k t358 y382).bind fun t385=>(if t385=true then(if t361=6 then(if t367=0 then(if t366=500 then(if t372=0 then(if t371=10 then(if t377=0 then(some (t376==2))else(none))else(none))else(none))else(none))else(none))else(none))else(none)))=some r:=hq hy382 H
    have Ny382:=m0 hy382;clear hy382;replace H:=oa H;obtain⟨t385,A13,H⟩:=H;(try dsimp only at H)
    by_cases c14:t385=true
    ·subst c14;rw[if_pos rfl]at H
     by_cases c15:t361=6
     ·rw [if_pos c15]at H;have c15b0:=beq_iff_eq.mpr c15;have c15b1:=bne_eq_false_iff_eq.mpr c15;clear c15
      by_cases c16:t367=0
      ·rw [if_pos c16]at H;have c16b0:=beq_iff_eq.mpr c16;have c16b1:=bne_eq_false_iff_eq.mpr c16;clear c16
       by_cases c17:t366=500
       ·rw [if_pos c17]at H;have c17b0:=beq_iff_eq.mpr c17;have c17b1:=bne_eq_false_iff_eq.mpr c17;clear c17
        by_cases c18:t372=0
        ·rw [if_pos c18]at H;have c18b0:=beq_iff_eq.mpr c18;have c18b1:=bne_eq_false_iff_eq.mpr c18;clear c18
         by_cases c19:t371=10
         ·rw [if_pos c19]at H;have c19b0:=beq_iff_eq.mpr c19;have c19b1:=bne_eq_false_iff_eq.mpr c19;clear c19
          by_cases c20:t377=0
          ·rw [if_pos c20]at H;have c20b0:=beq_iff_eq.mpr c20;have c20b1:=bne_eq_false_iff_eq.mpr c20;clear c20;obtain rfl:=Option.some.inj H;go_enter Tryz.func4,Tryz.ntmps4
           go_wp2_with (first|((with_reducible refine ga 13 rfl ?_);(try(refine gate_guard (by rfl) ?_;dsimp only));refine Kd.R_lit (Kd.int .i64) _ 3 ?hg (N:=13) ?hd (xs:=([10,0,45,45]:List Int)) (inner:=[.int .i64 10,.int .i64 0,.int .i64 45,.int .i64 45]) (ok:=fun _=>True) (okp:=fun _=>True) ?hr ?hp (fun _ hk=>hk) trivial (Below.refl _ _) (Nat.le_refl _) (by simp) ?_;(case hd=>rfl);(case hg=>rfl);(case hr=>first|(go_simp;done)|(go_simp;rfl));(case hp=>exact(Reps.one (ki 10) (Reps.one (ki 0) (Reps.one (ki 45) (Reps.one (ki 45) (Reps.none _ _))))));intro v349 w21 ho22 hb hg_ hnew_;clear hg_ hnew_;(first|rw[← Ny348.out]at ho22|(simp only[Int.reduceToNat]at ho22;rw[← Ny348.out]at ho22));have HO350:=m0 (Kd.R_lower ho22 (below_size bz));replace HB:=sb HB hb;clear hb ho22;obtain⟨Ao23,co23,eo23⟩:=Kd.R_slice HO350.out;subst eo23)|((with_reducible refine gc 20 rfl ?_);refine gl (some 14) Tryz.func20 #[.slice Ao23 y348.length co23,.int .i64 100] ?_;(with_reducible refine(L_Undone.calls k _ _ y348 100 t351 t352 _ ?side1 ?side2 A1.out).mono ?_);(case side1=>exact bc (Kd.R_reads' HO350.out).2.2);(case side2=>exact(Kd.R_reads' HO350.out).2.1);rintro e w24 ⟨v353,rfl,ho0,hb⟩;refine⟨_,rfl,?_⟩;replace HO350:=rb HO350 hb;have HO354:=m0 (Kd.R_lower ho0 (below_size bz));replace HB:=sb HB hb;(try clear hb);(try clear ho0))|((with_reducible refine ga 18 rfl ?_);(try(refine gate_guard (by rfl) ?_;dsimp only));refine Kd.R_lit (Kd.int .i64) _ 3 ?hg (N:=18) ?hd (xs:=([1,1,9,9]:List Int)) (inner:=[.int .i64 1,.int .i64 1,.int .i64 9,.int .i64 9]) (ok:=fun _=>True) (okp:=fun _=>True) ?hr ?hp (fun _ hk=>hk) trivial (Below.refl _ _) (Nat.le_refl _) (by simp) ?_;(case hd=>rfl);(case hg=>rfl);(case hr=>first|(go_simp;done)|(go_simp;rfl));(case hp=>exact(Reps.one (ki 1) (Reps.one (ki 1) (Reps.one (ki 9) (Reps.one (ki 9) (Reps.none _ _))))));intro v356 w25 ho26 hb hg_ hnew_;clear hg_ hnew_;(first|rw[← Ny355.out]at ho26|(simp only[Int.reduceToNat]at ho26;rw[← Ny355.out]at ho26));replace HO354:=rb HO354 hb;have HO357:=m0 (Kd.R_lower (Kd.R_new' ho26 (Kd.R_lt (br HO350.out))) (below_size bz));replace HO350:=m0 (Kd.R_elder' (br HO350.out) (Kd.R_base ho26) hb);replace HB:=sb HB hb;clear hb ho26;obtain⟨Ao27,co27,eo27⟩:=Kd.R_slice HO357.out;subst eo27)|((with_reducible refine gc 21 rfl ?_);refine gl (some 19) Tryz.func21 #[.slice Ao27 y355.length co27,.int .i64 3] ?_;(with_reducible refine(L_SegmentsOf.calls k (fun k_=>some k_=(.slice Ao27 y355.length co27:Value).ownBlock) _ _ y355 3 t358 t361 t362 _ ?side1 A2.out).mono ?_);(case side1=>exact Kd.R_V (Kd.R_tight rfl (Kd.R_apart' (HO357.out) (Kd.R_typed HO354.out) (by decide))));rintro e w28 ⟨v359,rfl,ho0,hb⟩;refine⟨_,rfl,?_⟩;have HO360:=hv w (fun k_=>some k_≠(.slice Ao23 y348.length co23:Value).ownBlock∧some k_≠(v353:Value).ownBlock) ho0 (fun k_ hk_=>⟨Or.elim hk_ (fun hs_=>((Kd.R_apart' (HO357.out) (Kd.R_typed HO354.out) (by decide)).1 k_ hs_.symm).1.2) (fun hn_=>(Kd.fresh' (Kd.R_lt (br HO350.out)) k_ hn_)),Or.elim hk_ (fun hs_=>((Kd.R_apart' (HO357.out) (Kd.R_typed HO354.out) (by decide)).1 k_ hs_.symm).2) (fun hn_=>(Kd.fresh' (Kd.R_lt (br HO354.out)) k_ hn_))⟩);replace HO350:=rb HO350 hb;replace HO354:=rb HO354 hb;replace HO357:=rb HO357 hb;replace HB:=sb HB hb;(try clear hb);(try clear ho0))|((with_reducible refine gc 23 rfl ?_);refine gl (some 24) Tryz.func23 #[] ?_;(with_reducible refine(Lw_Layers.calls  t363 _ A3.out).mono ?_);rintro e w29 ⟨v364,rfl,ho0,hb⟩;refine⟨_,rfl,?_⟩;replace HO350:=rb HO350 hb;replace HO354:=rb HO354 hb;replace HO357:=rb HO357 hb;replace HO360:=m0 (Kd.V_elder' (va HO360.out) (Kd.R_base ho0) hb);have HO365:=m0 (Kd.R_lower ho0 (below_size bz));replace HB:=sb HB hb;(try clear hb);(try clear ho0);obtain⟨Ao30,co30,eo30⟩:=Kd.R_slice HO365.out;subst eo30)|((with_reducible refine gc 22 rfl ?_);refine gl (some 25) Tryz.func22 #[.slice Ao30 t363.length co30,.int .i64 5] ?_;(with_reducible refine(L_CeilingOf.calls k _ _ t363 5 t366 t367 _ ?side1 ?side2 A4.out).mono ?_);(case side1=>exact bc (Kd.R_reads' HO365.out).2.2);(case side2=>exact(Kd.R_reads' HO365.out).2.1);rintro e w31 ⟨rfl,hb⟩;refine⟨_,rfl,?_⟩;replace HO350:=rb HO350 hb;replace HO354:=rb HO354 hb;replace HO357:=rb HO357 hb;replace HO360:=vb HO360 hb;replace HO365:=rb HO365 hb;replace HB:=sb HB hb;(try clear hb))|((with_reducible refine gc 25 rfl ?_);refine gl (some 29) Tryz.func25 #[] ?_;(with_reducible refine(Lw_Shots.calls  t368 _ A5.out).mono ?_);rintro e w32 ⟨v369,rfl,ho0,hb⟩;refine⟨_,rfl,?_⟩;replace HO350:=rb HO350 hb;replace HO354:=rb HO354 hb;replace HO357:=rb HO357 hb;replace HO360:=m0 (Kd.V_elder' (va HO360.out) (Kd.R_base ho0) hb);replace HO365:=rb HO365 hb;have HO370:=m0 (Kd.R_lower ho0 (below_size bz));replace HB:=sb HB hb;(try clear hb);(try clear ho0);obtain⟨Ao33,co33,eo33⟩:=Kd.R_slice HO370.out;subst eo33)|((with_reducible refine gc 24 rfl ?_);refine gl (some 30) Tryz.func24 #[.slice Ao33 t368.length co33,.int .i64 2] ?_;(with_reducible refine(L_ExposureOf.calls k _ _ t368 2 t371 t372 _ ?side1 ?side2 A6.out).mono ?_);(case side1=>exact bc (Kd.R_reads' HO370.out).2.2);(case side2=>exact(Kd.R_reads' HO370.out).2.1);rintro e w34 ⟨rfl,hb⟩;refine⟨_,rfl,?_⟩;replace HO350:=rb HO350 hb;replace HO354:=rb HO354 hb;replace HO357:=rb HO357 hb;replace HO360:=vb HO360 hb;replace HO365:=rb HO365 hb;replace HO370:=rb HO370 hb;replace HB:=sb HB hb;(try clear hb))|((with_reducible refine gc 25 rfl ?_);refine gl (some 34) Tryz.func25 #[] ?_;(with_reducible refine(Lw_Shots.calls  t373 _ A7.out).mono ?_);rintro e w35 ⟨v374,rfl,ho0,hb⟩;refine⟨_,rfl,?_⟩;replace HO350:=rb HO350 hb;replace HO354:=rb HO354 hb;replace HO357:=rb HO357 hb;replace HO360:=m0 (Kd.V_elder' (va HO360.out) (Kd.R_base ho0) hb);replace HO365:=rb HO365 hb;have HO375:=m0 (Kd.R_lower (Kd.R_new' ho0 (Kd.R_lt (br HO370.out))) (below_size bz));replace HO370:=m0 (Kd.R_elder' (br HO370.out) (Kd.R_base ho0) hb);replace HB:=sb HB hb;(try clear hb);(try clear ho0);obtain⟨Ao36,co36,eo36⟩:=Kd.R_slice HO375.out;subst eo36)|((with_reducible refine gc 26 rfl ?_);refine gl (some 36) Tryz.func26 #[.slice Ao36 t373.length co36,.agg #[.int .i64 2,.int .i64 7]] ?_;(with_reducible refine(L_UnsafeAt.calls k _ _ t373 2 7 t376 t377 _ ?side1 ?side2 A8.out).mono ?_);(case side1=>exact bc (Kd.R_reads' HO375.out).2.2);(case side2=>exact(Kd.R_reads' HO375.out).2.1);rintro e w37 ⟨rfl,hb⟩;refine⟨_,rfl,?_⟩;replace HO350:=rb HO350 hb;replace HO354:=rb HO354 hb;replace HO357:=rb HO357 hb;replace HO360:=vb HO360 hb;replace HO365:=rb HO365 hb;replace HO370:=rb HO370 hb;replace HO375:=rb HO375 hb;replace HB:=sb HB hb;(try clear hb))|((with_reducible refine ga 47 rfl ?_);(try(refine gate_guard (by rfl) ?_;dsimp only));refine Kd.R_lit k60 _ 60 ?hg (N:=47) ?hd (xs:=([(⟨1,10⟩:S60),(⟨0,1⟩:S60),(⟨1,2⟩:S60),(⟨1,1⟩:S60)]:List (S60))) (inner:=[.int .i64 1,.int .i64 10,.int .i64 0,.int .i64 1,.int .i64 1,.int .i64 2,.int .i64 1,.int .i64 1]) (ok:=fun _=>True) (okp:=fun _=>True) ?hr ?hp (fun _ hk=>hk) trivial (Below.refl _ _) (Nat.le_refl _) (by simp) ?_;(case hd=>rfl);(case hg=>rfl);(case hr=>first|(go_simp;done)|(go_simp;rfl));(case hp=>exact(Reps.c2 (show Kd.M k60 _ _ _ (⟨1,10⟩:S60) [.int .i64 1,.int .i64 10]from(k60_mkM _ _ _ (⟨1,10⟩:S60) )) (Reps.c2 (show Kd.M k60 _ _ _ (⟨0,1⟩:S60) [.int .i64 0,.int .i64 1]from(k60_mkM _ _ _ (⟨0,1⟩:S60) )) (Reps.c2 (show Kd.M k60 _ _ _ (⟨1,2⟩:S60) [.int .i64 1,.int .i64 2]from(k60_mkM _ _ _ (⟨1,2⟩:S60) )) (Reps.c2 (show Kd.M k60 _ _ _ (⟨1,1⟩:S60) [.int .i64 1,.int .i64 1]from(k60_mkM _ _ _ (⟨1,1⟩:S60) )) (Reps.none _ _))))));intro v379 w38 ho39 hb hg_ hnew_;clear hg_ hnew_;(first|rw[← Ny378.out]at ho39|(simp only[Int.reduceToNat]at ho39;rw[← Ny378.out]at ho39));replace HO350:=rb HO350 hb;replace HO357:=rb HO357 hb;replace HO360:=m0 (Kd.V_elder' (va HO360.out) (Kd.R_base ho39) hb);replace HO365:=rb HO365 hb;replace HO370:=rb HO370 hb;replace HO375:=rb HO375 hb;have HO380:=m0 (Kd.R_lower (Kd.R_new' ho39 (Kd.R_lt (br HO354.out))) (below_size bz));replace HO354:=m0 (Kd.R_elder' (br HO354.out) (Kd.R_base ho39) hb);replace HB:=sb HB hb;clear hb ho39;obtain⟨Ao40,co40,eo40⟩:=Kd.R_slice HO354.out;subst eo40;obtain⟨Ao41,co41,eo41⟩:=Kd.R_slice HO380.out;subst eo41)|(go_at_call 27;(with_reducible refine(Bs_Fracs.calls k _ _ t351 _ _ y378 true _ ?side1 ?side2 ?side3 ?side4 A10.out).mono ?_);(case side1=>exact bc (Kd.R_reads' HO354.out).2.2);(case side2=>exact(Kd.R_reads' HO354.out).2.1);(case side3=>exact bc (Kd.R_reads' HO380.out).2.2);(case side4=>exact(Kd.R_reads' HO380.out).2.1);rintro e w' ⟨rfl,⟨nd,rfl⟩⟩)|((with_reducible refine ga 56 rfl ?_);(try(refine gate_guard (by rfl) ?_;dsimp only));refine Kd.R_lit (Kd.int .i64) _ 3 ?hg (N:=56) ?hd (xs:=([0,2]:List Int)) (inner:=[.int .i64 0,.int .i64 2]) (ok:=fun _=>True) (okp:=fun _=>True) ?hr ?hp (fun _ hk=>hk) trivial (Below.refl _ _) (Nat.le_refl _) (by simp) ?_;(case hd=>rfl);(case hg=>rfl);(case hr=>first|(go_simp;done)|(go_simp;rfl));(case hp=>exact(Reps.one (ki 0) (Reps.one (ki 2) (Reps.none _ _))));intro v383 w42 ho43 hb hg_ hnew_;clear hg_ hnew_;(first|rw[← Ny382.out]at ho43|(simp only[Int.reduceToNat]at ho43;rw[← Ny382.out]at ho43));replace HO354:=rb HO354 hb;replace HO360:=m0 (Kd.V_elder' (va HO360.out) (Kd.R_base ho43) hb);replace HO365:=rb HO365 hb;replace HO370:=rb HO370 hb;replace HO375:=rb HO375 hb;replace HO380:=rb HO380 hb;have HO384:=m0 (Kd.R_lower (Kd.R_new' (Kd.R_new' ho43 (Kd.R_lt (br HO350.out))) (Kd.R_lt (br HO357.out))) (below_size bz));replace HO350:=m0 (Kd.R_elder' (br HO350.out) (Kd.R_base ho43) hb);replace HO357:=m0 (Kd.R_elder' (br HO357.out) (Kd.R_base ho43) hb);replace HB:=sb HB hb;clear hb ho43;obtain⟨Ao44,co44,eo44⟩:=Kd.V_slice HO360.out;subst eo44;obtain⟨Ao45,co45,eo45⟩:=Kd.R_slice HO384.out;subst eo45)|(go_at_call 16;(with_reducible refine(Bs_Ints.calls k _ _ t358 _ _ y382 true _ ?side1 ?side2 ?side3 ?side4 A13.out).mono ?_);(case side1=>exact bc (Kd.V_reads' HO360.out).2.2);(case side2=>exact(Kd.V_reads' HO360.out).2.1);(case side3=>exact bc (Kd.R_reads' HO384.out).2.2);(case side4=>exact(Kd.R_reads' HO384.out).2.1);rintro e w' ⟨rfl,⟨nd,rfl⟩⟩))
           go_ret
           exact ez
          ·rw [if_neg c20]at H;exact absurd H (by simp)
         ·rw [if_neg c19]at H;exact absurd H (by simp)
        ·rw [if_neg c18]at H;exact absurd H (by simp)
       ·rw [if_neg c17]at H;exact absurd H (by simp)
      ·rw [if_neg c16]at H;exact absurd H (by simp)
     ·rw [if_neg c15]at H;exact absurd H (by simp)
    ·replace c14:=Bool.eq_false_iff.mpr c14;subst c14;rw[if_neg (show ¬ (false=true) by decide)]at H;exact absurd H (by simp)
   ·rw [if_neg c12]at H;exact absurd H (by simp)
  ·replace c11:=Bool.eq_false_iff.mpr c11;subst c11;rw[if_neg (show ¬ (false=true) by decide)]at H;exact absurd H (by simp)
 ·rw [if_neg c9]at H;exact absurd H (by simp)
end
section
def Lw_few.f (l0:List Int):Option (Bool):=some (decide ((l0.length:Int)≤26))
theorem Lw_few.calls (A0:Option Addr) (c0:Nat) (l0:List Int) (r:Bool) (w:World) (hr0:Kd.C (Kd.int .i64) w A0 l0.length l0) (hc0:l0.length≤c0) (H:Lw_few.f l0=some r):
  Calls Tryz.prog 5 #[.slice A0 l0.length c0] w fun e w'=>e= .returned (.bool r)∧Drawn0 w w':=by
 have HR0:=m0 hr0;have HC0:=m0 hc0;clear hr0 hc0;unfold Lw_few.f at H;obtain rfl:=Option.some.inj H;go_enter Tryz.func5,Tryz.ntmps5
 go_wp2
 go_ret
 exact⟨rz,dz⟩
end
end Go.Proofs.YteiafijbgjgiaaaGreatDoor.A
