/-
Words with a step that fills itself in (for squeeze4.py).
-/
import Derived.Test.YteiafijbgjgiaaaGreatDoorS05
namespace Go.Proofs.YteiafijbgjgiaaaGreatDoor.A
open Go Go.RowKit Go.Proofs.YteiafijbgjgiaaaGreatDoorW.PrintWords Go.Proofs.YteiafijbgjgiaaaGreatDoorW.PrintLast Go.Proofs.YteiafijbgjgiaaaGreatDoorW.PrintMore
theorem va {p q:Prop} (e:q) (h:q→p:=by intro e_;(with_reducible repeat(first|apply Kd.V_alloc|apply Kd.V_drewN|apply Kd.V_drew));exact e_):p:=h e
theorem na {p q:Prop} (e:q) (h:q→p:=by intro e_;(with_reducible repeat(first|apply Kd.N_alloc|apply Kd.N_drewN|apply Kd.N_drew));exact e_):p:=h e
theorem vm {α:Type} {d:Kd α} {e:Nat} {W W':World} {base:Nat} {ok ok':Nat→Prop} {v:Value} {xs:List α} (x:d.V e W base ok v xs) (m:∀ k,ok k→ok' k) (h:d.V e W base ok' v xs→d.V e W' base ok' v xs:=by intro e_;(with_reducible repeat(first|apply Kd.V_alloc|apply Kd.V_drewN|apply Kd.V_drew));exact e_):d.V e W' base ok' v xs:=h (Kd.V_mono x m)
theorem rm {α:Type} {d:Kd α} {e:Nat} {W W':World} {base:Nat} {ok ok':Nat→Prop} {v:Value} {xs:List α} (x:d.R e W base ok v xs) (m:∀ k,ok k→ok' k) (h:d.R e W base ok' v xs→d.R e W' base ok' v xs:=by intro e_;(with_reducible repeat(first|apply Kd.R_alloc|apply Kd.R_drewN|apply Kd.R_drew));exact e_):d.R e W' base ok' v xs:=h (Kd.R_mono x m)
theorem hq {α:Type} {a b:α} {p q:Prop} (y:a=b) (x:q) (h:a=b→q→p:=by intro y_ x_;first|(rw[y_];with_reducible exact x_)|(have H2_:=(Option.bind_some _ _).symm.trans x_;rw[y_];with_reducible exact H2_)|(have H2_:=(Option.bind_some _ _).symm.trans x_;with_reducible exact H2_)|with_reducible exact x_|(rw[y_];exact x_)|exact x_):p:=h y x
theorem n4 {p:Prop} (h:p:=by first|(simp only[putAll,Act.put,List.setIfInBounds_toArray,List.set_cons_zero,List.set_cons_succ];done)|(simp only[putAll,Act.put,List.setIfInBounds_toArray,List.set_cons_zero,List.set_cons_succ];rfl)):p:=h
theorem dz {p:Prop} (h:p:=by repeat(first|exact Drawn0.refl _|apply Drawn0.step)):p:=h
theorem e4 {p:Prop} (h:p:=by first|rfl|(simp[errW_none,errW_some]<;>rfl)|(simp[*,errW_none,errW_some]<;>rfl)):p:=h
theorem cd {p q:Prop} (e:q) (h:q→p:=by intro e_;repeat(first|exact e_|(with_reducible refine Kd.C_alloc ?_ _)|(with_reducible refine Kd.C_drewN ?_ _)|(with_reducible refine Kd.C_drew ?_))):p:=h e
theorem lz {p:Prop} (h:p:=by repeat' with_reducible first|exact ih0 .. |exact ih1 .. |exact ih2 .. |exact ih3 .. |exact m1 .. |exact m2 .. |exact m3 .. |exact m4 .. |exact m5 .. |exact m6 .. |exact m7 .. |exact m8 .. |exact m9 .. |exact LeO.refl .. |exact LeO.none .. |refine LeO.ite ?_ ?_|refine LeO.bind ?_ (fun _=>?_)):p:=h
end Go.Proofs.YteiafijbgjgiaaaGreatDoor.A
