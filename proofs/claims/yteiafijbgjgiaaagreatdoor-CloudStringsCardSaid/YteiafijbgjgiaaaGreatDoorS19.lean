/-
A law for 'for x := range f' where the function writes into a cell of its own between the rounds (strings.SplitSeq's rest): what the caller keeps must not speak of that cell. (As RangeN.lean, with the cell's block told.)
-/
import Derived.Test.YteiafijbgjgiaaaGreatDoorS18
namespace Go.Proofs.YteiafijbgjgiaaaGreatDoor
open Go Go.RowKit

/-- What does not speak of a block of one cell. -/
def Blind1 (B:Nat) (t:TypeId) (J:Nat→World→Prop):Prop:=∀ k W v u,J k W→W.heap[B]?=some (.cells #[u] t (0,0))→J k (W.setCell ⟨B,0,none⟩ v)
/-- As YieldsN; the function may write into its own cell. -/
def YieldsB (F:Fence) (n:Nat) (P:Program) (g:Nat) (lb:Array Value) (enc:Nat→Value→Array Value) (Rd:Nat→Value→World→Prop) (Kp:World→World→Prop) (N B:Nat) (T:TypeId) (w:World):Prop:=
  ∀ (l:Nat) (J Jx:Nat→World→Prop) (W:World),Below w.heap.size w W→AbidesFrom W.heap.size J→AbidesFrom W.heap.size Jx→Blind1 B T J→Blind1 B T Jx→
    (∀ k x W1,k<N→Rd k x W1→J k W1→YieldAt F (n-1) P l (enc k x) W1 fun e W'=>
      (e= .returned (.bool true)∧J (k+1) W'∧Kp W1 W')∨(e= .returned (.bool false)∧Jx (k+1) W'))→
    J 0 W→CallsIn F n P g (#[.func (.yield l) #[] #[]]++lb) W fun e W'=>(∃ v,e= .returned v)∧(J N W'∨∃ k,k≤N∧Jx k W')
theorem one_ne {W:World} {B g:Nat} {u:Value} {t:TypeId} {mk:Nat×Nat} {o:Obj} (h:W.heap[B]?=some (.cells #[u] t mk)) (ho:W.heap[g]?=some o) (hc:o.isCells=false):g≠B:=by
  intro e
  subst e
  rw[h]at ho
  cases ho
  cases hc
variable {F:Fence} {n:Nat} {P:Program}

theorem wpIn_rangeB {g:Operand} {ps:Array Tmp} {assign body:Code} {Q:Exit→Act→World→Prop} {a:Act} {w:World}
    (hro:F.round=none) (h1:1≤n) {gf:Nat} {lb:Array Value} (hg:a.eval g= .func (.func gf) #[] lb) (hFg:F.fn gf) (eg:∀ args w,(callFunc gf args).run P w= .ok (.enter gf args) w)
    {enc:Nat→Value→Array Value} {Rd:Nat→Value→World→Prop} {Kp:World→World→Prop} {N B:Nat} {T:TypeId} {w0:World} (hseq:YieldsB F (n-1) P gf lb enc Rd Kp N B T w0)
    (hRd:∀ k x W l o o',W.heap[l]?=some o→o.isCells=false→Rd k x W→Rd k x (W.putObj l o'))
    (hKt:∀ {A B C:World},Kp A B→Kp B C→Kp A C) (hKb:∀ (W:World) (l:Nat) (o o':Obj),w.heap.size≤l→W.heap[l]?=some o→o.isCells=false→o.isWalk=false→Kp W (W.putObj l o'))
    (hb0:Below w0.heap.size w0 w) (hps:∀ k x,(enc k x).size=ps.size)
    (I:Nat→World→Prop) (Ix:Code→Nat→World→Prop) (hIB:Blind1 B T I) (hIxB:∀ c,Blind1 B T (Ix c)) (hI:OwnFrom w.heap.size I) (hIx:∀ c,OwnFrom w.heap.size (Ix c)) (h0:I 0 w)
    (hround:∀ (l k:Nat) (x:Value) (W:World) (K:Act→World→Prop),k<N→
      (∀ a₁:Act,(∀ W2:World,I k W2→Rd k x W2→body.wpIn (F.inRound l) (n-1-1) P (leftN Kp I Ix (k+1) W2) a₁ W2)→K a₁ W)→
      assign.wpIn (F.inRound l) (n-1-1) P (Exit.then K (fun _ _ _=>False)) {tmps:=(ps.zip (enc k x)).foldl (fun t (p,v)=>t.setIfInBounds p v) a.tmps,defers:=[] } W)
    (hdone:∀ (D:Nat) (W:World),w.heap.size≤D→I N W→W.heap[D]?=some (.deferred (some []))→Q .normal {a with defers:={target:= .collected D,args:= #[] }::a.defers } W)
    (hstop:∀ (D:Nat) (c:Code) (k:Nat) (W:World),w.heap.size≤D→k≤N→Ix c k W→W.heap[D]?=some (.deferred (some []))→c.wpIn F n P Q {a with defers:={target:= .collected D,args:= #[] }::a.defers } W):
    (Code.rangeFunc g ps assign body).wpIn F n P Q a w:=by
  refine wpIn_rangeFunc fun fn hfn=>?_
  rw[hro]
  -- the loop's record, and the world in which the function is entered
  let rc:LoopState→Option Code→Loop:=fun st pe=>{state:=st,pending:=pe,fn,tmps:=a.tmps,params:=ps,assign,body,defers:=w.heap.size }
  have hrc:∀ st pe,rc st pe={state:=st,pending:=pe,fn,tmps:=a.tmps,params:=ps,assign,body,defers:=w.heap.size }:=fun _ _=>rfl
  generalize hV:(w.alloc (.deferred (some []))).alloc (.loop (rc .ready none))=V
  have sD:(w.alloc (.deferred (some []))).heap.size=w.heap.size+1:=World.size_alloc ..
  have hLV:V.heap[w.heap.size+1]?=some (.loop (rc .ready none)):=by
    rw[← hV, ←sD];exact World.alloc_heap_new _ _
  have hDV:V.heap[w.heap.size]?=some (.deferred (some [])):=by
    rw[← hV];exact(Below.heap_alloc _ _ _ (by simp)).trans (World.alloc_heap_new w _)
  have hIV:I 0 V:=by rw[← hV];exact hI.alloc _ (hI.alloc _ h0)
  have hbV:Below w0.heap.size w0 V:=by
    rw[← hV];exact hb0.trans ((((Below.refl _ w).alloc (Nat.le_refl _) _).alloc (by simp) _).mono hb0.size)
  have hsV:V.heap.size=w.heap.size+2:=by rw[← hV];simp
  refine⟨w.heap.size+1,[{target:= .collected w.heap.size,args:= #[] }],V,{target:= .fn (.func gf) lb,args:= #[.func (.yield (w.heap.size+1)) #[] #[]] },V,gf,#[.func (.yield (w.heap.size+1)) #[] #[]]++lb,V,?_,?_,?_,?_,fun _=>h1,?_⟩
  · rw[← hV];exact run_enterLoop_outer _ _ _ _ _
  · simp only[resolve,hg]
    simp[go_sem]
  · intro f' hf'
    simp[Target.leads]at hf'
    subst hf'
    exact hFg
  · simp[invoke,go_sem,eg]
  -- what is kept from round to round: the caller's own relation, the record, the place of deferred calls
  have keep:∀ {A B:World} {row:Option Nat},A.grownBy B row→(∀ r,row=some r→V.heap.size≤r∧∃ o:Obj,A.heap[r]?=some o∧o.isWalk=true)→∀ {i:Nat} {o:Obj},A.heap[i]?=some o→o.isWalk=false→B.heap[i]?=some o:=
    fun hg' hr _ _ ho hw=>(grownBy_keeps hg' (fun r e=>(hr r e).2) ho hw).trans ho
  have wide:∀ {A:World} {row:Option Nat},(∀ r,row=some r→V.heap.size≤r∧∃ o:Obj,A.heap[r]?=some o∧o.isWalk=true)→∀ r,row=some r→w.heap.size≤r∧∃ o:Obj,A.heap[r]?=some o∧o.isCells=false:=
    fun hr r e=>by
      obtain⟨hB,o,ho,hw⟩:=hr r e
      exact⟨by omega,o,ho,Obj.not_cells_of_walk hw⟩
  refine(hseq (w.heap.size+1)
    (fun k W=>I k W∧W.heap[w.heap.size+1]?=some (.loop (rc .ready none))∧W.heap[w.heap.size]?=some (.deferred (some [])))
    (fun k W=>∃ c,Ix c k W∧W.heap[w.heap.size+1]?=some (.loop (rc .done (some c)))∧W.heap[w.heap.size]?=some (.deferred (some []))) V hbV ?_ ?_ ?_ ?_ ?_ ⟨hIV,hLV,hDV⟩).mono ?_
  · rintro k A B row ⟨hi,hl,hd⟩ hg' hr
    exact⟨hI k A B row hi hg' (wide hr),keep hg' hr hl rfl,keep hg' hr hd rfl⟩
  · rintro k A B row ⟨c,hi,hl,hd⟩ hg' hr
    exact⟨c,hIx c k A B row hi hg' (wide hr),keep hg' hr hl rfl,keep hg' hr hd rfl⟩
  · rintro k A v u ⟨hi,hl,hd⟩ hB
    exact⟨hIB k A v u hi hB,(Below.heap_setCell A _ v _ (one_ne hB hl rfl)).trans hl,(Below.heap_setCell A _ v _ (one_ne hB hd rfl)).trans hd⟩
  · rintro k A v u ⟨c,hi,hl,hd⟩ hB
    exact⟨c,hIxB c k A v u hi hB,(Below.heap_setCell A _ v _ (one_ne hB hl rfl)).trans hl,(Below.heap_setCell A _ v _ (one_ne hB hd rfl)).trans hd⟩
  · -- one round
    rintro k x W hk hrd ⟨hi,hl,hd⟩
    have hlt:w.heap.size+1<W.heap.size:=(Array.getElem?_eq_some_iff.1 hl).1
    generalize hW2:W.putObj (w.heap.size+1) (.loop {rc .ready none with state:= .busy })=W2
    have hl2:W2.heap[w.heap.size+1]?=some (.loop {rc .ready none with state:= .busy }):=by rw[← hW2];exact World.putObj_heap_same hlt
    have hd2:W2.heap[w.heap.size]?=some (.deferred (some [])):=by rw[← hW2];exact(World.putObj_heap_other (by omega)).trans hd
    have hkp2:Kp W W2:=by rw[← hW2];exact hKb _ _ _ _ (by omega) hl rfl rfl
    have hi2:I k W2:=by rw[← hW2];exact hI.putObj _ hi (by omega) hl rfl
    have hrd2:Rd k x W2:=by rw[← hW2];exact hRd k x W _ _ _ hl rfl hrd
    refine⟨fn,_,assign,body,run_yield (P:=P) (args:=enc k x) hl (hps k x),roundIn_of_wpIn hfn (hround _ k x W _ hk fun a₁ hb=>⟨W2,by rw[← hW2];exact run_beginRound hl rfl,?_⟩)⟩
    refine wpIn_mono (hb W2 hi2 hrd2) ?_
    -- the round's end writes the record alone
    have fin:∀ (jump:Option Code) (W3:World),KeepsOthers W2 W3→W3.heap[w.heap.size+1]?=some (.loop {rc .ready none with state:= .busy })∧
        (Instr.endRound (w.heap.size+1) jump).run P W3= .ok (.bool jump.isNone) (W3.putObj (w.heap.size+1) (.loop (rc (if jump.isNone then .ready else .done) jump)))∧
        (W3.putObj (w.heap.size+1) (.loop (rc (if jump.isNone then .ready else .done) jump))).heap[w.heap.size+1]?=some (.loop (rc (if jump.isNone then .ready else .done) jump))∧
        (W3.putObj (w.heap.size+1) (.loop (rc (if jump.isNone then .ready else .done) jump))).heap[w.heap.size]?=some (.deferred (some [])):=fun jump W3 hk3=>by
      have hl3:=hk3.same _ _ hl2 rfl
      exact⟨hl3,run_endRound (P:=P) jump hl3,World.putObj_heap_same (Array.getElem?_eq_some_iff.1 hl3).1,(World.putObj_heap_other (by omega)).trans (hk3.same _ _ hd2 rfl)⟩
    intro e a3 W3 hp
    cases e with
    | normal=>
      obtain⟨hk3,hkp3,hi3⟩:=hp
      obtain⟨hl3,hr,hl4,hd4⟩:=fin none W3 hk3
      exact⟨_,_,hr,.inl ⟨rfl,⟨hI.putObj _ hi3 (by omega) hl3 rfl,hl4,hd4⟩,hKt (hKt hkp2 hkp3) (hKb _ _ _ _ (by omega) hl3 rfl rfl)⟩⟩
    | ret=>
      obtain⟨hk3,hi3⟩:=hp
      obtain⟨hl3,hr,hl4,hd4⟩:=fin (some .ret) W3 hk3
      exact⟨_,_,hr,.inr ⟨rfl,.ret,(hIx _).putObj _ hi3 (by omega) hl3 rfl,hl4,hd4⟩⟩
    |_=>exact hp.elim
  · -- behind the function
    rintro e W2 ⟨⟨v,rfl⟩,⟨hi,hl,hd⟩|⟨k,hk,c,hi,hl,hd⟩⟩
    · exact⟨none,_,run_endLoop (P:=P) hl (by simp[rc]),hdone _ _ (Nat.le_refl _) (hI.putObj _ hi (by omega) hl rfl) ((World.putObj_heap_other (by omega)).trans hd)⟩
    · exact⟨some c,_,run_endLoop (P:=P) hl (by simp[rc]),hstop _ c k _ (Nat.le_refl _) hk ((hIx c).putObj _ hi (by omega) hl rfl) ((World.putObj_heap_other (by omega)).trans hd)⟩
end Go.Proofs.YteiafijbgjgiaaaGreatDoor
