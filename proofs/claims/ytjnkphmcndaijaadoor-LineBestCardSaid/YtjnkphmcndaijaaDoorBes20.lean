/-
What the laid table of estimators says of a world: its four cells are the four functions. And the door's own heap meets the condition.
-/
import Derived.Test.YtjnkphmcndaijaaDoorTie
import Derived.ProofKit
import Derived.OpenShut
import Derived.LaidMore
import Derived.Stop.Joined
import Derived.Laws.IdiomArrays
import Derived.Test.YtjnkphmcndaijaaDoorBes04
namespace Go.Proofs.YtjnkphmcndaijaaDoor
open Go Go.ChangeShapes Go.WideShapes Go.ChangeAt Go.RowKit
namespace Laid

theorem gEst : Tryd.prog.globalNamed "glidepath/line.estimators" = some 0 := by kernel_rfl
theorem tEst : (Tryd.prog.globals[0]?).map (·.type) = some 153 := by kernel_rfl

/-- The list that every row of this seat lays. -/
def est {H : Type} : List (String × DataW H) := [("glidepath/line.estimators", Rows.laid_glidepath_line_estimators)]

theorem door_met (os : Os) (args : Array Value) : laidMetH Tryd.prog est ((World.doorLaid Tryd.prog 600 os).forCall (fun _ _ => 0) ⟨#[], args, []⟩).memory :=
  laidMetH_of_parts3 (fuel := 8) (laidMet_of_run' 8 (by kernel_rfl) (by kernel_rfl)) (by kernel_rfl) (by kernel_rfl)

theorem estG {W : World} (h : laidMetH Tryd.prog est W) : A.EstG W := by
  obtain ⟨g, t, cs, fuel, p, hg, ht, hv, hd⟩ := h.funcs (List.mem_singleton.2 rfl)
  obtain rfl := Option.some.inj (gEst.symm.trans hg)
  obtain rfl := Option.some.inj (tEst.symm.trans ht)
  have hd' : DataW.trod (funcToken Tryd.prog) Tryd.prog W 0 (fun _ => true) true fuel 153 cs.toList = some (.agg [DataW.held [40, 103, 108, 105, 100, 101, 112, 97, 116, 104, 47, 108, 105, 110, 101, 46, 115, 112, 101, 99, 116, 114, 117, 109, 41, 46, 104, 105, 103, 104, 101, 115, 116], DataW.held [40, 103, 108, 105, 100, 101, 112, 97, 116, 104, 47, 108, 105, 110, 101, 46, 115, 112, 101, 99, 116, 114, 117, 109, 41, 46, 119, 104, 111, 108, 101], DataW.held [40, 103, 108, 105, 100, 101, 112, 97, 116, 104, 47, 108, 105, 110, 101, 46, 115, 112, 101, 99, 116, 114, 117, 109, 41, 46, 112, 97, 114, 97, 98, 111, 108, 97], DataW.held [40, 103, 108, 105, 100, 101, 112, 97, 116, 104, 47, 108, 105, 110, 101, 46, 115, 112, 101, 99, 116, 114, 117, 109, 41, 46, 109, 101, 100, 105, 97, 110]], p) := hd
  have c153 : Tryd.prog.cellsOf 153 = 4 := by kernel_rfl
  have c152 : Tryd.prog.cellsOf 152 = 1 := by kernel_rfl
  obtain ⟨_, _, _, _, hl, _, _⟩ := DataW.trod_array Tryd.underlying153 hd'
  rw [c153] at hl
  obtain ⟨a0, a1, a2, a3, hcs⟩ : ∃ a0 a1 a2 a3, cs.toList = [a0, a1, a2, a3] := by
    match h : cs.toList with
    | [a0, a1, a2, a3] => exact ⟨a0, a1, a2, a3, rfl⟩
    | [] => rw [h] at hl; simp at hl
    | [_] => rw [h] at hl; simp at hl
    | [_, _] => rw [h] at hl; simp at hl
    | [_, _, _] => rw [h] at hl; simp at hl
    | _ :: _ :: _ :: _ :: _ :: _ => rw [h] at hl; simp at hl
  rw [hcs] at hd'
  obtain ⟨y0, y1, y2, y3, n, e, h0, h1, h2, h3⟩ := trod_array4 Tryd.underlying153 c152 hd'
  obtain ⟨d0, p0⟩ := y0
  obtain ⟨d1, p1⟩ := y1
  obtain ⟨d2, p2⟩ := y2
  obtain ⟨d3, p3⟩ := y3
  simp only [Prod.mk.injEq, DataW.agg.injEq, List.cons.injEq, and_true] at e
  obtain ⟨⟨rfl, rfl, rfl, rfl⟩, _⟩ := e
  obtain rfl := func_of_trod (f0 := 192) Tryd.underlying152 (by kernel_rfl) h0
  obtain rfl := func_of_trod (f0 := 193) Tryd.underlying152 (by kernel_rfl) h1
  obtain rfl := func_of_trod (f0 := 194) Tryd.underlying152 (by kernel_rfl) h2
  obtain rfl := func_of_trod (f0 := 195) Tryd.underlying152 (by kernel_rfl) h3
  have hc : cs = #[.func (.func 192) #[] #[], .func (.func 193) #[] #[], .func (.func 194) #[] #[], .func (.func 195) #[] #[]] := by
    apply Array.ext'
    rw [hcs]
  have hv' := World.var?_cell hg hv
  rw [hc] at hv'
  exact ⟨by rw [hv' 0]; rfl, by rw [hv' 1]; rfl, by rw [hv' 2]; rfl, by rw [hv' 3]; rfl⟩
end Laid
end Go.Proofs.YtjnkphmcndaijaaDoor
