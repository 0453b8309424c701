/-
What the laid variables of strconv say of a world: the powers of ten, two errors. And a world laid by the list meets the condition.
-/
import Derived.Test.YteiafijbgjgiaaaGreatDoorTie
import Derived.ProofKit
import Derived.OpenShut
import Derived.LaidMore
import Derived.Stop.Joined
import Derived.Stop.LaidErr
import Derived.Lay
import Derived.Test.YteiafijbgjgiaaaGreatDoorS07
namespace Go.Proofs.YteiafijbgjgiaaaGreatDoor
open Go Go.ChangeShapes Go.WideShapes Go.ChangeAt Go.RowKit
namespace Laid

theorem gPow:Tryz.prog.globalNamed "internal/strconv.uint64pow10" =some 5:=by kernel_rfl
theorem tPow:(Tryz.prog.globals[5]?).map (·.type)=some 195:=by kernel_rfl
theorem gSyn:Tryz.prog.globalNamed "strconv.ErrSyntax" =some 1:=by kernel_rfl
theorem gRng:Tryz.prog.globalNamed "strconv.ErrRange" =some 2:=by kernel_rfl
theorem tSyn:(Tryz.prog.globals[1]?).map (·.type)=some 109:=by kernel_rfl
theorem tRng:(Tryz.prog.globals[2]?).map (·.type)=some 109:=by kernel_rfl

/-- The list that the row lays. -/
def est:List (String×DataW Unit):=[("math/bits.deBruijn32tab",Rows.laid_math_bits_deBruijn32tab),("math/bits.deBruijn64tab",Rows.laid_math_bits_deBruijn64tab),("internal/strconv.uint64pow10",Rows.laid_internal_strconv_uint64pow10),("unicode/utf8.acceptRanges",Rows.laid_unicode_utf8_acceptRanges),("strconv.ErrRange",Rows.laid_strconv_ErrRange),("strconv.ErrSyntax",Rows.laid_strconv_ErrSyntax),("unicode/utf8.first",Rows.laid_unicode_utf8_first)]

theorem all_met (os:Os) (args:Array Value):laidMetH Tryz.prog est ((World.laidAll Tryz.prog os est).forCall (fun _ _=>0) ⟨#[],args,[]⟩).memory:=by
  rw[MakeChecks.laidMetH_plain _ _ _ (by kernel_rfl)]
  exact laidMet_laidAll _ (by kernel_rfl) (by kernel_rfl)

/-- A variable that reads as an error holds one. -/
theorem ifaceVar {P:Program} {n nm:String} {d:DataW Unit} {r:List (String×DataW Unit)} {W:World} {g:Nat} {ti:TypeId} {ms:Array (String×TypeId)}
    (h:laidMet P ((n,.iface nm d)::r) W) (hg:P.globalNamed n=some g) (ht:(P.globals[g]?).map (·.type)=some ti) (hi:P.underlying ti=some (.interface ms)):
    ∃ tp p,W.var? P n=some #[.iface tp p]:=by
  obtain⟨ps,⟨g0,t0,cs0,f0,p0,q0,hg0,ht0,hv0,hd0,_,e0⟩,_⟩:=h
  obtain rfl:=Option.some.inj (hg.symm.trans hg0)
  obtain rfl:=Option.some.inj (ht.symm.trans ht0)
  obtain⟨_,u,v,hc,_⟩:=iface_of_trod hi hd0
  refine⟨u,v,?_⟩
  rw[hv0]
  congr 1
  exact Array.ext' hc
theorem ePow {H:Type}:(Rows.laid_internal_strconv_uint64pow10:DataW H)=Lib.tabData .u64 Lib.pow10Tab:=by
  unfold Rows.laid_internal_strconv_uint64pow10;rfl
theorem estG {W:World} (h:laidMetH Tryz.prog est W):A.EstG W:=by
  rw[MakeChecks.laidMetH_plain _ _ _ (by kernel_rfl)]at h
  have h2:=h.tail.tail
  have h4:=h2.tail.tail
  refine⟨?_,ifaceVar h4.tail gSyn tSyn Tryz.underlying109,ifaceVar h4 gRng tRng Tryz.underlying109⟩
  have h3:laidMet Tryz.prog (("internal/strconv.uint64pow10",Lib.tabData .u64 Lib.pow10Tab):: [("unicode/utf8.acceptRanges",Rows.laid_unicode_utf8_acceptRanges),("strconv.ErrRange",Rows.laid_strconv_ErrRange),("strconv.ErrSyntax",Rows.laid_strconv_ErrSyntax),("unicode/utf8.first",Rows.laid_unicode_utf8_first)]) W:=by
    rw[← ePow];exact h2
  exact Lib.tabIs_of_head gPow tPow Tryz.underlying195 Tryz.underlying171 (by kernel_rfl) (by kernel_rfl) h3
end Laid
end Go.Proofs.YteiafijbgjgiaaaGreatDoor
