/-
A parameter's value is opened: what was read in at a type is one of the kind, and is good. For whole numbers, slices, structs; put together for any of these.
-/
import Derived.Deep.Slices
import Derived.ChangeArms
import Derived.ChangeSame
import Derived.OpenShut
import Derived.Deep.Strs
import Derived.Test.YteiafijbgjgiaaaGreatDoorS01
namespace Go.Proofs.YteiafijbgjgiaaaGreatDoor.A
open Go Go.ChangeShapes Go.WideShapes Go.RowKit Go.Deep Go.Proofs.YteiafijbgjgiaaaGreatDoorW.PrintWords
def Opens {α:Type} (P:Program) (W:World) (t:TypeId) (d:Kd α) (g:α→Prop):Prop:=
  ∀ (H:Type) (enc:TypeId×Value→H) (fuel:Nat) (cs:List Value) (x:DataW H×List MemPlace),DataW.trod enc P W 0 (fun _=>true) true fuel t cs=some x→∃ v:α,d.K W v cs∧g v
theorem Opens.int {P:Program} {W:World} {t:TypeId} {k:IntKind} (ht:P.underlying t=some (.int k)):Opens P W t (Kd.int k) (fun n=>(Lit.int k n).wf=true):=by
  intro H enc fuel cs x h
  obtain⟨n,e,_,hw⟩:=DataW.trod_int ht h
  exact⟨n,e,hw⟩
theorem Opens.slice {α:Type} [Inhabited α] {P:Program} {W:World} {t e:TypeId} {d:Kd α} {g:α→Prop} (ht:P.underlying t=some (.slice e)) (hs:P.cellsOf e=d.sz) (ho:Opens P W e d g):
    Opens P W t (Kd.slice e d) (fun l=>l.length≤maxLen∧∀ x∈l,g x):=by
  intro H enc fuel cs x h
  rcases open_slice ht h with ⟨rfl,_⟩|⟨a,len,cap,m,n,D,Pl,rfl,hb,hl,hm,hmm,_,hx⟩
  · refine⟨[],⟨none,0,rfl,Nat.le_refl _,rfl,by simp,fun h=>absurd h (by simp)⟩,by simp,fun x hx=>by cases hx⟩
  · have hlm:len≤m:=by rw[hmm];simpa using hl
    obtain⟨V,hV⟩:=choose_lt (α:=α) (n:=len) (p:=fun i v=>g v∧∃ cs',W.cells? 0 (a.add (i*P.cellsOf e)) (P.cellsOf e)=some cs'∧d.K W v cs') (fun i hi=>by
      obtain⟨cs',h1,h2⟩:=hx i (by omega)
      obtain⟨v,hk,hg⟩:=ho H enc _ _ _ h2
      exact⟨v,hg,cs',h1,hk⟩)
    have hlen:((List.range len).map V).length=len:=by simp
    have hmax:cap≤9223372036854775807:=Nat.le_trans hm (by decide)
    refine⟨(List.range len).map V,⟨some a,cap,by rw[hlen],by rw[hlen];exact hl,rfl,by rw[hlen];omega,fun _=>⟨a,rfl,fun j p hj=>?_⟩⟩,by rw[hlen];omega,fun x hx=>?_⟩
    · have hjl:j<len:=by
        have:=(List.getElem?_eq_some_iff.1 hj).1
        rw[hlen]at this;exact this
      have hp:p=V j:=by
        rw[List.getElem?_map,List.getElem?_range hjl]at hj
        exact(Option.some.inj hj).symm
      subst hp
      obtain⟨_,cs',h1,h2⟩:=hV j hjl
      obtain⟨_,hcl,hc⟩:=World.cells?_some h1
      refine⟨cs',by rw[hcl,hs],h2,fun i u hu=>?_⟩
      have hi:i<P.cellsOf e:=by
        have:=(List.getElem?_eq_some_iff.1 hu).1
        omega
      have:=hc i hi
      rw[Addr.add_add]at this
      rw[← hs,this,hu]
    · obtain⟨i,hi,rfl⟩:=List.mem_map.1 hx
      exact(hV i (by simpa using hi)).1
theorem Opens.iso {α β:Type} {P:Program} {W:World} {t:TypeId} {d:Kd α} {g:α→Prop} {f:β→α} (inv:α→β) (hf:∀ a,f (inv a)=a) (ho:Opens P W t d g):Opens P W t (Kd.iso d f) (fun b=>g (f b)):=by
  intro H enc fuel cs x h
  obtain⟨v,hk,hg⟩:=ho H enc fuel cs x h
  exact⟨inv v,by show d.K W (f (inv v)) cs;rw[hf];exact hk,by show g (f (inv v));rw[hf];exact hg⟩
theorem parts3 {α:Type} {cs:List α} {a b c:Nat} (h:cs.length=a+(b+c)):cs=(cs.drop 0).take a++((cs.drop a).take b++(cs.drop (a+b)).take c):=by
  rw[List.take_of_length_le (l:=cs.drop (a+b)) (by simp;omega), ←List.drop_drop,List.take_append_drop];simp
theorem Opens.struct3 {α β γ:Type} {P:Program} {W:World} {t:TypeId} {f0 f1 f2:Field} {a:Kd α} {b:Kd β} {c:Kd γ} {ga:α→Prop} {gb:β→Prop} {gc:γ→Prop} (ht:P.underlying t=some (.struct #[f0,f1,f2])) (hs:P.cellsOf t=a.sz+(b.sz+c.sz))
    (h0:f0.offset=0) (h1:f1.offset=a.sz) (h2:f2.offset=a.sz+b.sz) (s0:P.cellsOf f0.type=a.sz) (s1:P.cellsOf f1.type=b.sz) (s2:P.cellsOf f2.type=c.sz)
    (o0:Opens P W f0.type a ga) (o1:Opens P W f1.type b gb) (o2:Opens P W f2.type c gc):Opens P W t (Kd.pair a (Kd.pair b c)) (fun x=>ga x.1∧gb x.2.1∧gc x.2.2):=by
  intro H enc fuel cs x h
  obtain⟨y0,y1,y2,n,_,hl,e0,e1,e2⟩:=trod_struct3 ht h
  obtain⟨v0,k0,g0⟩:=o0 H enc _ _ _ e0
  obtain⟨v1,k1,g1⟩:=o1 H enc _ _ _ e1
  obtain⟨v2,k2,g2⟩:=o2 H enc _ _ _ e2
  rw[h0,s0]at k0
  rw[h1,s1]at k1
  rw[h2,s2]at k2
  exact⟨(v0,v1,v2),⟨_,_,parts3 (hl.trans hs),k0,_,_,rfl,k1,k2⟩,g0,g1,g2⟩
/-- A slice handed in. -/
theorem Opens.param {α:Type} {P:Program} {W:World} {t e:TypeId} {d:Kd α} {g:List α→Prop} (ho:Opens P W t (Kd.slice e d) g) {H:Type} {enc:TypeId×Value→H} {a:Option Addr} {len cap:Nat} {x:DataW H×List MemPlace}
    (h:∃ fuel,DataW.trod enc P W 0 (fun _=>true) true fuel t (Value.slice a len cap).cells.toList=some x):∃ l:List α,len=l.length∧d.C W a l.length l∧g l∧l.length≤cap:=by
  obtain⟨fuel,hf⟩:=h
  obtain⟨l,⟨A,c,e1,hc,hr⟩,hg⟩:=ho H enc fuel _ x hf
  simp[Value.cells]at e1
  obtain⟨rfl,rfl,rfl⟩:=e1
  exact⟨l,rfl,hr,hg,hc⟩
end Go.Proofs.YteiafijbgjgiaaaGreatDoor.A
