/-
  The package's variable, as the program lays it.
-/
import Derived.Test.YtmokklkckecmdaaDoorRows
import Derived.Test.YtmokklkckecmdaaDoorCodeR
import Derived.ProofKit
import Derived.LaidMore
import Derived.OpenShut
import Derived.Stop.Joined
namespace Go.Proofs.YtmokklkckecmdaaDoor
set_option linter.unusedSimpArgs false
set_option linter.unusedVariables false
open Go.ChangeShapes Go.WideShapes Go.ChangeAt Go.RowKit Go.Sep

abbrev laidT : List (String × DataW Unit) := [("countermand/code.tops", Rows.laid_countermand_code_tops)]
theorem gTops : Tryd.prog.globalNamed "countermand/code.tops" = some 0 := by kernel_rfl
theorem tTops : (Tryd.prog.globals[0]?).map (·.type) = some 64 := by kernel_rfl
theorem door_met (os : Os) (args : Array Value) : laidMetH Tryd.prog laidT ((World.doorLaid Tryd.prog 400 os).forCall (fun _ _ => 0) ⟨#[], args, []⟩).memory :=
  laidMetH_of_parts3 (fuel := 8) (laidMet_of_run' 8 (by kernel_rfl) (by kernel_rfl)) (by kernel_rfl) (by kernel_rfl)
theorem tops_of_laid {W : World} (h : laidMetH Tryd.prog laidT W) : TopsAt W := by
  rw [MakeChecks.laidMetH_plain _ _ _ (by kernel_rfl)] at h
  obtain ⟨ps, ⟨g0, t0, cs0, f0, p0, q0, hg0, ht0, hv0, hd0, _, _⟩, _, _⟩ := h
  obtain rfl := Option.some.inj (gTops.symm.trans hg0)
  obtain rfl := Option.some.inj (tTops.symm.trans ht0)
  obtain ⟨xs, m1, rfl, hx1, hlen, hn3, hel⟩ := DataW.trod_array Tryd.underlying64 hd0
  have c3 : Tryd.prog.cellsOf 3 = 1 := by kernel_rfl
  have c64 : Tryd.prog.cellsOf 64 = 3 := by kernel_rfl
  have h0 := hel 0 (by decide)
  have h1 := hel 1 (by decide)
  have h2 := hel 2 (by decide)
  simp only [Prod.mk.injEq, DataW.agg.injEq, Rows.laid_countermand_code_tops] at hx1
  rw [c64] at hlen
  obtain ⟨l1⟩ := cs0
  match l1, hlen with
  | [a0, a1, a2], _ =>
    match xs, hn3, hx1, h0, h1, h2 with
    | [y0, y1, y2], _, hx1, h0, h1, h2 =>
      simp only [List.map_cons, List.map_nil, List.cons.injEq] at hx1
      obtain ⟨k0, e0, z0, _⟩ := DataW.trod_int Tryd.underlying3 (show DataW.trod _ Tryd.prog W 0 _ false m1 3 _ = some y0 from h0)
      obtain ⟨k1, e1, z1, _⟩ := DataW.trod_int Tryd.underlying3 (show DataW.trod _ Tryd.prog W 0 _ false m1 3 _ = some y1 from h1)
      obtain ⟨k2, e2, z2, _⟩ := DataW.trod_int Tryd.underlying3 (show DataW.trod _ Tryd.prog W 0 _ false m1 3 _ = some y2 from h2)
      rw [c3] at e0 e1 e2
      subst z0; subst z1; subst z2
      simp at hx1 e0 e1 e2
      have v0 := World.var?_cell hg0 hv0 0
      have v1 := World.var?_cell hg0 hv0 1
      have v2 := World.var?_cell hg0 hv0 2
      simp at v0 v1 v2
      exact ⟨by rw [v0, e0]; simp [hx1], by rw [v1, e1]; simp [hx1], by rw [v2, e2]; simp [hx1]⟩
end Go.Proofs.YtmokklkckecmdaaDoor
