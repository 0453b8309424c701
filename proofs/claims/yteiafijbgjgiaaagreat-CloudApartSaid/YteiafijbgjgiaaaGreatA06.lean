/- THE LAW CloudApart: its parameters are opened, its walk (the contract) is joined with the plain law; the row. Written by wip/gen_law.py. -/
import Derived.Test.YteiafijbgjgiaaaGreatRows
import Derived.WalkKit
import Derived.ProofKit
import Derived.OpenShut
import Derived.ShutString
import Derived.ChangeOld
import Derived.Below
import Derived.SizedLaws
import Derived.Lib.SmallJoins
import Derived.Deep.Strs
import Derived.ChangeSame
import Derived.Test.YteiafijbgjgiaaaGreatA05
import Derived.Test.YteiafijbgjgiaaaGreatB03
namespace Go.Proofs.YteiafijbgjgiaaaGreat.cloudApart
open Go.ChangeShapes Go.WideShapes Go.ChangeAt Go.RowKit Go.Proofs.YteiafijbgjgiaaaGreatW.PrintWords Go.Deep
set_option linter.unusedVariables false
set_option linter.unusedSimpArgs false
theorem own:ownKnob Tryz.prog.godebug=none:=by kernel_rfl
theorem laidOut:laidOutB Tryz.prog=true:=by kernel_rfl
def IsRow (k:IntKind) (w:World) (a:Option Addr) (len cap:Nat) (zs:List Int):Prop:=
  (a=none∧len=0∧cap=0∧zs=[])∨
  ∃ x,a=some x∧len≤cap∧cap≤maxLen∧zs.length=cap∧(∀ i,i<zs.length→w.cell? (x.add i)=some (.int k (zs.getD i 0)))∧∀ n∈zs,(Lit.int k n).wf=true
theorem c3:Tryz.prog.cellsOf 3=1:=by kernel_rfl
theorem c22:Tryz.prog.cellsOf 22=1:=by kernel_rfl
theorem c24:Tryz.prog.cellsOf 24=2:=by kernel_rfl
theorem c26:Tryz.prog.cellsOf 26=3:=by kernel_rfl
theorem c28:Tryz.prog.cellsOf 28=6:=by kernel_rfl
theorem arr6 {α:Type} {cs:Array α} (h:cs.size=6):∃ c0 c1 c2 c3 c4 c5,cs= #[c0,c1,c2,c3,c4,c5]:=by
  obtain⟨l⟩:=cs
  match l,h with
  | [c0,c1,c2,c3,c4,c5],_=>exact⟨c0,c1,c2,c3,c4,c5,rfl⟩
set_option maxRecDepth 100000 in
theorem lifted (os:Os) (started:os.Started) (H:Type) (enc:TypeId×Value→H):
    ReturnsInHanded {} Tryz.checked os 3 .any (Rows.cloudApartSpec.pre6 enc Tryz.prog Tryz.f3 Rows.cloudApartRow.domain false) (Rows.cloudApartSpec.post enc Tryz.prog Tryz.f3 false true false false):=by
  refine returnsInHanded_of_change_sized (C:=Tryz.checked) own started (by kernel_rfl) Tryz.func3
    (ChangeSpec.witness6 (enc:=enc) (C:=Tryz.checked) false ⟨#[],#[.slice none 0 0,.agg #[.int .i64 0,.int .i64 0,.int .i64 0,.int .i64 0,.int .i64 0,.int .i64 0],.int .i64 0],[]⟩ 8 (by kernel_rfl) (by kernel_rfl) (by kernel_rfl) (by kernel_rfl)) ?_
  intro W base args ds gs before hval0 hW hcnd hsz0 _
  have hval:∀ (j:Nat) t v,Tryz.f3.params[j]?=some t→args[j]?=some v→Value.okWide Tryz.prog W .any base t v:=hval0
  have hW':=hW
  obtain⟨p,q,hA0,hV,rfl,hfz,hnd⟩:=hW
  have hA:DataW.TrodAll enc Tryz.prog W 0 (fun _=>true) true Tryz.f3.params.toList args.toList ds p:=hA0
  rw[Tryz.params3]at hA hval
  obtain⟨v0,vs0,d0,ds0,p0,q0,hargs,rfl,rfl,h0,r0⟩:=trodAll_cons hA
  obtain⟨v1,vs1,d1,ds1,p1,q1,rfl,rfl,rfl,h1,r1⟩:=trodAll_cons r0
  obtain⟨v2,vs2,d2,ds2,p2,q2,rfl,rfl,rfl,h2,r2⟩:=trodAll_cons r1
  obtain⟨rfl,rfl,rfl⟩:=trodAll_nil r2
  obtain rfl:args= #[v0,v1,v2]:=by cases args;simp_all
  obtain⟨rfl,rfl⟩:=trodVars_none hV
  have k0:=h0
  have lt0:∀ x∈p0,x.block<W.heap.size:=by obtain⟨m,hm⟩:=k0;exact DataW.trod_lt m _ _ _ hm
  obtain⟨a0,len0,cap0,rfl⟩:=okWide_slice Tryz.underlying22 (hval 0 22 v0 rfl rfl)
  obtain⟨z0,w0⟩:∃ zs,IsRow .i64 W a0 len0 cap0 zs:=by
    obtain⟨fuel,hf⟩:=h0
    rcases open_ints Tryz.underlying22 Tryz.underlying3 (by kernel_rfl) hf with ⟨hcs,_⟩|⟨x,l,c,zs,hcs,_,hl,hm,hz,_,hcell,hwz⟩
    · simp[Value.cells]at hcs
      obtain⟨rfl,rfl,rfl⟩:=hcs
      exact⟨[],.inl ⟨rfl,rfl,rfl,rfl⟩⟩
    · simp[Value.cells]at hcs
      obtain⟨rfl,rfl,rfl⟩:=hcs
      exact⟨zs,.inr ⟨_,rfl,hl,hm,by simpa using hz,hcell,hwz⟩⟩
  obtain⟨l0,rfl,hr0,hm0,hw0,hc0⟩:=ReadsInt.ofRowC w0
  have k1:=h1
  have lt1:∀ x∈p1,x.block<W.heap.size:=by obtain⟨m,hm⟩:=k1;exact DataW.trod_lt m _ _ _ hm
  obtain⟨cs1,rfl,hz1⟩:=okWide_struct Tryz.underlying28 (hval 1 28 v1 rfl rfl)
  obtain⟨x1_0,x1_1,x1_2,x1_3,x1_4,x1_5,rfl⟩:=arr6 (hz1.trans c28)
  obtain⟨fuel1,hf1⟩:=h1
  obtain⟨y1_0,y1_1,y1_2,m1,_,_,s1_0,s1_1,s1_2⟩:=trod_struct3 Tryz.underlying28 hf1
  replace s1_0:DataW.trod enc Tryz.prog W 0 (fun _=>true) true m1 3 [x1_0]=some y1_0:=by simpa [Value.cells,c3]using s1_0
  obtain⟨n1_0,e1_0,_,wf1_0⟩:=DataW.trod_int Tryz.underlying3 s1_0
  obtain rfl:x1_0= .int .i64 n1_0:=by simpa [Value.cells]using e1_0
  replace s1_1:DataW.trod enc Tryz.prog W 0 (fun _=>true) true m1 24 [x1_1,x1_2]=some y1_1:=by simpa [Value.cells,c24]using s1_1
  obtain⟨y2_0,y2_1,m2,_,_,s2_0,s2_1⟩:=trod_struct2 Tryz.underlying24 s1_1
  replace s2_0:DataW.trod enc Tryz.prog W 0 (fun _=>true) true m2 3 [x1_1]=some y2_0:=by simpa [Value.cells,c3]using s2_0
  obtain⟨n1_1,e1_1,_,wf1_1⟩:=DataW.trod_int Tryz.underlying3 s2_0
  obtain rfl:x1_1= .int .i64 n1_1:=by simpa [Value.cells]using e1_1
  replace s2_1:DataW.trod enc Tryz.prog W 0 (fun _=>true) true m2 3 [x1_2]=some y2_1:=by simpa [Value.cells,c3]using s2_1
  obtain⟨n1_2,e1_2,_,wf1_2⟩:=DataW.trod_int Tryz.underlying3 s2_1
  obtain rfl:x1_2= .int .i64 n1_2:=by simpa [Value.cells]using e1_2
  replace s1_2:DataW.trod enc Tryz.prog W 0 (fun _=>true) true m1 26 [x1_3,x1_4,x1_5]=some y1_2:=by simpa [Value.cells,c26]using s1_2
  obtain⟨y3_0,y3_1,y3_2,m3,_,_,s3_0,s3_1,s3_2⟩:=trod_struct3 Tryz.underlying26 s1_2
  replace s3_0:DataW.trod enc Tryz.prog W 0 (fun _=>true) true m3 3 [x1_3]=some y3_0:=by simpa [Value.cells,c3]using s3_0
  obtain⟨n1_3,e1_3,_,wf1_3⟩:=DataW.trod_int Tryz.underlying3 s3_0
  obtain rfl:x1_3= .int .i64 n1_3:=by simpa [Value.cells]using e1_3
  replace s3_1:DataW.trod enc Tryz.prog W 0 (fun _=>true) true m3 3 [x1_4]=some y3_1:=by simpa [Value.cells,c3]using s3_1
  obtain⟨n1_4,e1_4,_,wf1_4⟩:=DataW.trod_int Tryz.underlying3 s3_1
  obtain rfl:x1_4= .int .i64 n1_4:=by simpa [Value.cells]using e1_4
  replace s3_2:DataW.trod enc Tryz.prog W 0 (fun _=>true) true m3 3 [x1_5]=some y3_2:=by simpa [Value.cells,c3]using s3_2
  obtain⟨n1_5,e1_5,_,wf1_5⟩:=DataW.trod_int Tryz.underlying3 s3_2
  obtain rfl:x1_5= .int .i64 n1_5:=by simpa [Value.cells]using e1_5
  have k2:=h2
  have lt2:∀ x∈p2,x.block<W.heap.size:=by obtain⟨m,hm⟩:=k2;exact DataW.trod_lt m _ _ _ hm
  obtain⟨n2,rfl,rfl,rfl,wf2⟩:=open_int Tryz.underlying3 (hval 2 3 v2 rfl rfl) h2
  clear hA0 hval0
  obtain⟨kk,hk⟩:=Go.Proofs.YteiafijbgjgiaaaGreat.P.CloudApart_pure l0 hm0 hw0 n1_0 wf1_0 n1_1 wf1_1 n1_2 wf1_2 n1_3 wf1_3 n1_4 wf1_4 n1_5 wf1_5 n2 wf2
  refine(A.Lw_CloudApart.calls kk _ _ l0 n1_0 n1_1 n1_2 n1_3 n1_4 n1_5 n2 true W (Kd.C_of_reads (d:=(0:Int)) (h1:=fun _=>rfl) hr0) hc0 hk).mono fun e W' ⟨he,bel⟩=>?_
  subst he
  exact⟨_,rfl,_,_,_,[],_,[],hW',trodAll_mk1 (shut_bool Tryz.underlying4 _),(trodAll_cons_mk (Below.trod laidOut (by kernel_rfl) (of_decide_eq_true (by kernel_rfl)) k0 bel lt0) (trodAll_cons_mk (Below.trod laidOut (by kernel_rfl) (of_decide_eq_true (by kernel_rfl)) k1 bel lt1) (trodAll_cons_mk (Below.trod laidOut (by kernel_rfl) (of_decide_eq_true (by kernel_rfl)) k2 bel lt2) trodAll_mk0))),rfl,bel.frame _,fun h=>by cases h⟩
set_option maxHeartbeats 0 in
theorem holds:Rows.CloudApartSaid:=
  OpenClaim.holds_of_wide 3 Tryz.f3 rfl rfl rfl rfl rfl rfl rfl ⟨rfl,rfl,rfl,rfl,rfl⟩ rfl rfl rfl rfl rfl (by as_aux_lemma=>kernel_rfl) Tryz.func3 (by as_aux_lemma=>kernel_rfl)
    (of_decide_eq_true (by as_aux_lemma=>kernel_rfl)) (by as_aux_lemma=>unfold Func.isWrapper;first|(rw[if_pos (by decide +kernel)];kernel_rfl)|(rw[if_neg (by decide +kernel)];exact⟨rfl,rfl⟩))
    (fun os started H enc _=>lifted os started H enc)
#print axioms holds
end Go.Proofs.YteiafijbgjgiaaaGreat.cloudApart
