/-
  What comes in as slices of whole numbers and of truths, for every law; two facts of the program.
-/
import Derived.Test.YtmokklkckecmdaaDoorTypes
import Derived.Test.YtmokklkckecmdaaDoorSepMore
import Derived.Test.YtmokklkckecmdaaDoorFlat
import Derived.Test.YtmokklkckecmdaaDoorLawFrame
import Derived.WalkKit
import Derived.ProofKit
import Derived.OpenShut
namespace Go.Proofs.YtmokklkckecmdaaDoor
set_option linter.unusedSimpArgs false
set_option linter.unusedVariables false
open Go.ChangeShapes Go.WideShapes Go.ChangeAt Go.RowKit Go.Sep

/-- Whole numbers that came in: as they lie in the world in which the law began. -/
def IntsAt (e : World) (a : Option Addr) (l : List Int) : Prop := ∀ (i : Nat) (n : Int), l[i]? = some n → ∃ p : Addr, a = some p ∧ e.cell? (p.add i) = some (.int .i64 n)
def BoolsAt (e : World) (a : Option Addr) (l : List Bool) : Prop := ∀ (i : Nat) (n : Bool), l[i]? = some n → ∃ p : Addr, a = some p ∧ e.cell? (p.add i) = some (.bool n)
theorem old_cell {e w : World} {L : List HProp} {i : Nat} (hw : Holds e w L) (hi : L[i]? = some (Old e)) {p : Addr} {v : Value} (h : e.cell? p = some v) : w.cell? p = some v := by
  rw [(hw.below hi).cell (World.block_lt_of_cell? e _ h)]; exact h
theorem own : ownKnob Tryd.prog.godebug = none := by kernel_rfl
theorem laidOut : laidOutB Tryd.prog = true := by kernel_rfl
theorem wf_i64 {z : Int} (h : (Lit.int .i64 z).wf = true) : -9223372036854775808 ≤ z ∧ z ≤ 9223372036854775807 := by
  have e1 : IntKind.i64.min = -9223372036854775808 := rfl
  have e2 : IntKind.i64.max = 9223372036854775807 := rfl
  simp only [Lit.wf, Bool.and_eq_true, decide_eq_true_eq] at h
  omega
theorem wf_u8 {z : Int} (h : (Lit.int .u8 z).wf = true) : 0 ≤ z ∧ z ≤ 255 := by
  have e1 : IntKind.u8.min = 0 := rfl
  have e2 : IntKind.u8.max = 255 := rfl
  simp only [Lit.wf, Bool.and_eq_true, decide_eq_true_eq] at h
  omega
theorem flatI : flatK Tryd.prog 2 3 = some [some .i64] := by kernel_rfl
theorem flatB : flatK Tryd.prog 2 4 = some [none] := by kernel_rfl
theorem cellsI : Tryd.prog.cellsOf 3 = 1 := by kernel_rfl
theorem cellsB : Tryd.prog.cellsOf 4 = 1 := by kernel_rfl
end Go.Proofs.YtmokklkckecmdaaDoor
