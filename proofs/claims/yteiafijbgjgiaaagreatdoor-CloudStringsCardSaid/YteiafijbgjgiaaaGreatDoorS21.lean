/-
A region that draws its order, inside a round of a range over a function, walked by the same steps as anywhere else: no operation of it is a defer statement.
(This session's own; it stands on the kit's printed words.)
-/
import Derived.OrdersIn
import Derived.RangeFuncCalls
import Derived.OwnWalkIn
import Derived.Test.YteiafijbgjgiaaaGreatDoorS02
namespace Go.Proofs.YteiafijbgjgiaaaGreatDoor
open Go Go.RowKit Go.Proofs.YteiafijbgjgiaaaGreatDoorW.PrintLast

/-- No operation is a defer statement. -/
def noDeferB (ops:Array Oper):Bool:=ops.all fun o=>match o.op with| .defer _=>false|_=>true

theorem noDefer_of {ops:Array Oper} (h:noDeferB ops=true) {i:Nat} {o:Oper} (ho:ops[i]?=some o):∀ c,o.op≠ .defer c:=by
  intro c hc
  have h1:=Array.all_eq_true_iff_forall_mem.1 h o (Array.mem_of_getElem? ho)
  rw[hc]at h1
  cases h1

section
variable {P:Program} {ops:Array Oper} {Q:Exit→Act→World→Prop} {md:Region.Mode} {S:World→Prop} {ds:List Nat}

theorem rowsIn_of_rows {l n:Nat} {row:String} {args:Array Value} {w:World} {R:Value→World→Prop} (h:Rows P row args w R):RowsIn (Fence.wide.inRound l) n P row args w R:=
  fun c cs _=>let ⟨v,w',r,s⟩:=h c cs;⟨v,w',r,stepsIn_wide.2 s⟩

theorem wpIn_of_wide {l n:Nat} {o:Oper} (hnd:∀ c,o.op≠ .defer c) {K:Act→World→Prop} {a:Act} {w:World} (h:o.wp P a w K Q):o.wpIn (Fence.wide.inRound l) n P a w K Q:=by
  unfold Oper.wpIn
  refine⟨fun _ _=>trivial,?_⟩
  rw[Oper.semAt_plain _ _ _ hnd]
  unfold Oper.wp at h
  generalize (execOp a.eval o).run P w=r at*
  cases r with
  | ok x w'=>
    cases x with
    |value v=>exact h
    |skip=>exact h
    |defer d=>exact h
    |enter f args=>exact⟨fun hd=>by simp[Fence.wide]at hd,CallsIn.inRound l (callsIn_wide.2 (h.mono fun e w'' he=>by cases e<;>exact he))⟩
    |row row args=>exact⟨fun hd=>by simp[Fence.wide]at hd,rowsIn_of_rows h⟩
    |_=>exact h.elim
  |halt x w'=>cases x<;>exact h

theorem wpAnyIn_of_wide {l n:Nat} (hnd:noDeferB ops=true) (hno:¬ LetsOut Q):∀ (fuel:Nat) (listed:Array Bool) (a:Act) (w:World),
    wpAny P md ops Q fuel listed a w→wpAnyIn (Fence.wide.inRound l) n P md ops Q fuel listed a w
  |0,_,_,_,h=>h
  | fuel +1,listed,a,w,h=>⟨h.1,fun i hi=>by
      have h1:=h.2 i hi
      unfold wpOp at h1
      unfold wpOpIn
      cases ho:ops[i]? with
      |none=>rw[ho]at h1;exact wpAnyIn_of_wide hnd hno fuel _ _ _ h1
      | some o=>
        rw[ho]at h1
        by_cases hw:Region.wanted o (yielded ops a.tmps)=true
        · simp only[hw,if_true]at h1 ⊢
          rcases h1 with h1|h1
          · exact Oper.wpIn_mono (fun a w=>wpAnyIn_of_wide hnd hno fuel _ a w) (wpIn_of_wide (noDefer_of hnd ho) h1)
          · exact absurd h1.2 hno
        · simp only[hw,Bool.false_eq_true,if_false]at h1 ⊢
          exact⟨fun _ _=>trivial,wpAnyIn_of_wide hnd hno fuel _ _ _ h1⟩⟩

/-- 'start_', in a round. -/
theorem startR_ {r m id n:Nat} {a:Act} {w:World} (l:Array Bool) (hm:P.follows .mixedOrders=true) (hnd:noDeferB ops=true) (hno:¬ LetsOut Q) (hn:ops.size=n) (hl:Array.replicate n false=l) (hS:S w.drew)
    (h:S w.drew→wpAnyLast P .any ops Q S ds n l a w.drew):(Code.region id ops true).wpIn (Fence.wide.inRound r) m P Q a w:=by
  subst hn
  subst hl
  exact wpIn_region_any hm (wpAnyIn_of_wide hnd hno _ _ _ _ (wpAny_of_last _ _ _ _ (h hS)))
end
end Go.Proofs.YteiafijbgjgiaaaGreatDoor
