/- THE LAW CloudStrings: its parameters are opened, its walk (the contract) is joined with the plain law; the row and its tied card. Written by wip/gen_law.py. -/
import Derived.Test.YteiafijbgjgiaaaGreatDoorRows
import Derived.Test.YteiafijbgjgiaaaGreatDoorCards
import Derived.ShutString
import Derived.ChangeOld
import Derived.ChangeMaps5
import Derived.SevenTiedAt
import Derived.Test.YteiafijbgjgiaaaGreatDoorS26
import Derived.Test.YteiafijbgjgiaaaGreatDoorS27
import Derived.Test.YteiafijbgjgiaaaGreatDoorS28
namespace Go.Proofs.YteiafijbgjgiaaaGreatDoor.cloudStrings
open Go.ChangeShapes Go.WideShapes Go.ChangeAt Go.RowKit Go.Proofs.YteiafijbgjgiaaaGreatDoorW.PrintWords Go.Deep
set_option linter.unusedVariables false
set_option linter.unusedSimpArgs false
theorem own:ownKnob Tryz.prog.godebug=none:=by kernel_rfl
theorem laidOut:laidOutB Tryz.prog=true:=by kernel_rfl
def IsRow (k:IntKind) (w:World) (a:Option Addr) (len cap:Nat) (zs:List Int):Prop:=
  (a=none∧len=0∧cap=0∧zs=[])∨
  ∃ x,a=some x∧len≤cap∧cap≤maxLen∧zs.length=cap∧(∀ i,i<zs.length→w.cell? (x.add i)=some (.int k (zs.getD i 0)))∧∀ n∈zs,(Lit.int k n).wf=true
theorem c3:Tryz.prog.cellsOf 3=1:=by kernel_rfl
theorem c9:Tryz.prog.cellsOf 9=1:=by kernel_rfl
theorem c22:Tryz.prog.cellsOf 22=1:=by kernel_rfl
theorem c23:Tryz.prog.cellsOf 23=1:=by kernel_rfl
theorem c64:Tryz.prog.cellsOf 64=3:=by kernel_rfl
def g64 (x:A.S64):Prop:=(Lit.int .i64 x.f0).wf=true∧(Lit.int .i64 x.f1).wf=true∧(Lit.int .i64 x.f2).wf=true
theorem o64 {W:World}:A.Opens Tryz.prog W 64 A.k64 g64:=A.Opens.iso (f:=fun x:A.S64=>(x.f0,x.f1,x.f2)) (fun p=>⟨p.1,p.2.1,p.2.2⟩) (fun _=>rfl) (A.Opens.struct3 (a:=Kd.int .i64) (b:=Kd.int .i64) (c:=Kd.int .i64) Tryz.underlying64 c64 rfl rfl rfl c3 c3 c3 (A.Opens.int (P:=Tryz.prog) (W:=W) Tryz.underlying3) (A.Opens.int (P:=Tryz.prog) (W:=W) Tryz.underlying3) (A.Opens.int (P:=Tryz.prog) (W:=W) Tryz.underlying3))
instance:Inhabited A.S64:=⟨A.z64⟩
set_option maxRecDepth 100000 in
theorem lifted (os:Os) (started:os.Started) (H:Type) (enc:TypeId×Value→H):
    ReturnsInHanded {} Tryz.checked os 3 .any (fun w args=>(Rows.cloudStringsSpec.pre enc Tryz.prog Tryz.f3 [] false w args∧laidMetH Tryz.prog Laid.est w)∧sizedMet enc Tryz.prog Tryz.f3 (OpenSpec.ofChange Rows.cloudStringsSpec) false w args)
      (Rows.cloudStringsSpec.post enc Tryz.prog Tryz.f3 false true false false):=by
  refine returnsInHanded_of_change_and (C:=Tryz.checked) (X:=fun w _=>laidMetH Tryz.prog Laid.est w) (fun _ _ _ hh h=>h.of_heap hh) own started (by kernel_rfl) Tryz.func3
    (ChangeSpec.witness_shaped (enc:=enc) (C:=Tryz.checked) (os:=os) (X:=fun w _=>laidMetH Tryz.prog Laid.est w) false (World.laidAll Tryz.prog os Laid.est) #[.slice none 0 0,.slice none 0 0,.string .empty] 8 (World.laidAll_os _ _ _) (World.shaped_of_ZipB (by kernel_rfl) (by kernel_rfl)) (by kernel_rfl) (by kernel_rfl) (by kernel_rfl) (Laid.all_met os _)) ?_
  intro W base args ds gs before hval0 hW _ hsz0 hL _
  have hG:=Laid.estG hL
  have hval:∀ (j:Nat) t v,Tryz.f3.params[j]?=some t→args[j]?=some v→Value.okWide Tryz.prog W .any base t v:=hval0
  have hW':=hW
  obtain⟨p,q,hA0,hV,rfl,hfz,hnd⟩:=hW
  have hA:DataW.TrodAll enc Tryz.prog W 0 (fun _=>true) true Tryz.f3.params.toList args.toList ds p:=hA0
  rw[Tryz.params3]at hA hval
  obtain⟨v0,vs0,d0,ds0,p0,q0,hargs,rfl,rfl,h0,r0⟩:=trodAll_cons hA
  obtain⟨v1,vs1,d1,ds1,p1,q1,rfl,rfl,rfl,h1,r1⟩:=trodAll_cons r0
  obtain⟨v2,vs2,d2,ds2,p2,q2,rfl,rfl,rfl,h2,r2⟩:=trodAll_cons r1
  obtain⟨rfl,rfl,rfl⟩:=trodAll_nil r2
  obtain rfl:args= #[v0,v1,v2]:=by cases args;simp_all
  obtain⟨rfl,rfl⟩:=trodVars_none hV
  have k0:=h0
  have lt0:∀ x∈p0,x.block<W.heap.size:=by obtain⟨m,hm⟩:=k0;exact DataW.trod_lt m _ _ _ hm
  obtain⟨a0,len0,cap0,rfl⟩:=okWide_slice Tryz.underlying22 (hval 0 22 v0 rfl rfl)
  obtain⟨z0,w0⟩:∃ zs,IsRow .i64 W a0 len0 cap0 zs:=by
    obtain⟨fuel,hf⟩:=h0
    rcases open_ints Tryz.underlying22 Tryz.underlying3 (by kernel_rfl) hf with ⟨hcs,_⟩|⟨x,l,c,zs,hcs,_,hl,hm,hz,_,hcell,hwz⟩
    · simp[Value.cells]at hcs
      obtain⟨rfl,rfl,rfl⟩:=hcs
      exact⟨[],.inl ⟨rfl,rfl,rfl,rfl⟩⟩
    · simp[Value.cells]at hcs
      obtain⟨rfl,rfl,rfl⟩:=hcs
      exact⟨zs,.inr ⟨_,rfl,hl,hm,by simpa using hz,hcell,hwz⟩⟩
  obtain⟨l0,rfl,hr0,hm0,hw0,hc0⟩:=ReadsInt.ofRowC w0
  have k1:=h1
  have lt1:∀ x∈p1,x.block<W.heap.size:=by obtain⟨m,hm⟩:=k1;exact DataW.trod_lt m _ _ _ hm
  obtain⟨a1,len1,cap1,rfl⟩:=okWide_slice Tryz.underlying23 (hval 1 23 v1 rfl rfl)
  obtain⟨l1,rfl,hr1,hg1,hc1⟩:=(A.Opens.slice (P:=Tryz.prog) (W:=W) Tryz.underlying23 c64 (o64)).param h1
  have k2:=h2
  have lt2:∀ x∈p2,x.block<W.heap.size:=by obtain⟨m,hm⟩:=k2;exact DataW.trod_lt m _ _ _ hm
  obtain⟨s2,rfl,rfl,rfl,hs2⟩:=Go.ChangeMaps.open_string Tryz.underlying9 (hval 2 9 v2 rfl rfl) h2
  clear hA0 hval0
  obtain⟨kk,hk⟩:=Go.Proofs.YteiafijbgjgiaaaGreatDoor.P.CloudStrings_pure l0 hm0 hw0 l1 hg1 s2 hs2
  refine(A.Lw_CloudStrings.calls kk _ _ l0 _ _ l1 s2 true W (Kd.C_of_reads (d:=(0:Int)) (h1:=fun _=>rfl) hr0) hc0 hr1 hc1 hG hk).mono fun e W' ⟨he,bel⟩=>?_
  subst he
  exact⟨_,rfl,_,_,_,[],_,[],hW',trodAll_mk1 (shut_bool Tryz.underlying4 _),(trodAll_cons_mk (Below.trod laidOut (by kernel_rfl) (of_decide_eq_true (by kernel_rfl)) k0 bel lt0) (trodAll_cons_mk (Below.trod laidOut (by kernel_rfl) (of_decide_eq_true (by kernel_rfl)) k1 bel lt1) (trodAll_cons_mk (Below.trod laidOut (by kernel_rfl) (of_decide_eq_true (by kernel_rfl)) k2 bel lt2) trodAll_mk0))),rfl,bel.frame _,fun h=>by cases h⟩
set_option maxHeartbeats 0 in
theorem holds:Rows.CloudStringsSaid:=
  OpenClaim.holds_of_wide 3 Tryz.f3 rfl rfl rfl rfl rfl rfl rfl ⟨rfl,rfl,rfl,rfl,rfl⟩ rfl rfl rfl rfl rfl (by as_aux_lemma=>kernel_rfl) Tryz.func3 (by as_aux_lemma=>kernel_rfl)
    (of_decide_eq_true (by as_aux_lemma=>kernel_rfl)) (by as_aux_lemma=>unfold Func.isWrapper;first|(rw[if_pos (by decide +kernel)];kernel_rfl)|(rw[if_neg (by decide +kernel)];exact⟨rfl,rfl⟩))
    (fun os started H enc _=>lifted os started H enc)
set_option maxHeartbeats 0 in
theorem card_holds:Rows.CloudStringsCardSaid:=
  Claim7.holds_tied_plain_at .later [] [.data,.data,.data,.data,.sentinel,.sentinel,.pinned] true (true, "695bdeae72c59d26944926224cbf3daa9f083d4959727145b626fb3976915292") true
    holds (fun _ h=>by cases h) (by as_aux_lemma=>kernel_rfl) (fun _ h=>by cases h) cloudStrings_row_tie rfl ⟨rfl,rfl⟩ (by as_aux_lemma=>kernel_rfl) rfl
    (fun f fn hf hfn=>by
      obtain rfl:f=3:=Option.some.inj ((show Tryz.prog.funcNamed "glidepath/glidepathlaw08.CloudStrings" =some 3 by as_aux_lemma=>kernel_rfl).symm.trans hf) |>.symm
      obtain rfl:fn=Tryz.f3:=(Option.some.inj (Tryz.func3.symm.trans hfn)).symm
      exact⟨by as_aux_lemma=>kernel_rfl,fun j t ht=>by
        rw[Tryz.params3]at ht
        have hm:t∈ [22,23,9]:=by simpa using Array.mem_of_getElem? ht
        have hall:([22,23,9].all fun u=> !Tryz.prog.wantsStandIn u)=true:=by as_aux_lemma=>kernel_rfl
        exact(show Tryz.prog.wantsStandIn t=false by simpa using List.all_eq_true.1 hall t hm)⟩)
    (by as_aux_lemma=>kernel_rfl)
#print axioms card_holds
end Go.Proofs.YteiafijbgjgiaaaGreatDoor.cloudStrings
