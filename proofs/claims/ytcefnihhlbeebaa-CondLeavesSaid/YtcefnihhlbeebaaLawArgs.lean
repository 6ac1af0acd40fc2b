/-
  What comes in as slices of whole numbers and of truths, for every law; two facts of the program.
-/
import Derived.Test.YtcefnihhlbeebaaTypes
import Derived.Test.YtcefnihhlbeebaaSepMore
import Derived.Test.YtcefnihhlbeebaaFlat
import Derived.Test.YtcefnihhlbeebaaLawFrame
import Derived.WalkKit
import Derived.ProofKit
import Derived.OpenShut
namespace Go.Proofs.Ytcefnihhlbeebaa
set_option linter.unusedSimpArgs false
set_option linter.unusedVariables false
open Go.ChangeShapes Go.WideShapes Go.ChangeAt Go.RowKit Go.Sep

/-- Whole numbers that came in: as they lie in the world in which the law began. -/
def IntsAt (e : World) (a : Option Addr) (l : List Int) : Prop := ∀ (i : Nat) (n : Int), l[i]? = some n → ∃ p : Addr, a = some p ∧ e.cell? (p.add i) = some (.int .i64 n)
def BoolsAt (e : World) (a : Option Addr) (l : List Bool) : Prop := ∀ (i : Nat) (n : Bool), l[i]? = some n → ∃ p : Addr, a = some p ∧ e.cell? (p.add i) = some (.bool n)
theorem old_cell {e w : World} {L : List HProp} {i : Nat} (hw : Holds e w L) (hi : L[i]? = some (Old e)) {p : Addr} {v : Value} (h : e.cell? p = some v) : w.cell? p = some v := by
  rw [(hw.below hi).cell (World.block_lt_of_cell? e _ h)]; exact h
theorem own : ownKnob Try.prog.godebug = none := by kernel_rfl
theorem laidOut : laidOutB Try.prog = true := by kernel_rfl
theorem wf_i64 {z : Int} (h : (Lit.int .i64 z).wf = true) : -9223372036854775808 ≤ z ∧ z ≤ 9223372036854775807 := by
  have e1 : IntKind.i64.min = -9223372036854775808 := rfl
  have e2 : IntKind.i64.max = 9223372036854775807 := rfl
  simp only [Lit.wf, Bool.and_eq_true, decide_eq_true_eq] at h
  omega
theorem wf_u8 {z : Int} (h : (Lit.int .u8 z).wf = true) : 0 ≤ z ∧ z ≤ 255 := by
  have e1 : IntKind.u8.min = 0 := rfl
  have e2 : IntKind.u8.max = 255 := rfl
  simp only [Lit.wf, Bool.and_eq_true, decide_eq_true_eq] at h
  omega
theorem flatI : flatK Try.prog 2 3 = some [some .i64] := by kernel_rfl
theorem flatB : flatK Try.prog 2 4 = some [none] := by kernel_rfl
theorem cellsI : Try.prog.cellsOf 3 = 1 := by kernel_rfl
theorem cellsB : Try.prog.cellsOf 4 = 1 := by kernel_rfl
theorem open_ints {H : Type} {enc : TypeId × Value → H} {W : World} {v : Value} {d : DataW H} {ps : List MemPlace} {b0 : Nat} (hv : Value.okWide Try.prog W .any b0 57 v) (h : DataW.Trod enc Try.prog W 0 (fun _ => true) true 57 v d ps) :
    ∃ (a : Option Addr) (cap : Nat) (l : List Int), v = .slice a l.length cap ∧ l.length ≤ maxLen ∧ IntsAt W a l := by
  obtain ⟨a, len, cap, rfl, hlen, _, hR⟩ := open_slice_flat 2 Try.underlying57 flatI (by rw [cellsI]; rfl) hv h
  obtain ⟨l, hl, hA⟩ := exists_list (R := fun i (n : Int) => ∃ p : Addr, a = some p ∧ W.cell? (p.add i) = some (.int .i64 n)) len (fun i hi => by
    obtain ⟨p, cs, hp, hf, hc⟩ := hR i hi
    obtain ⟨z0, cs, rfl, _, hf⟩ := fitsK_cons hf
    obtain rfl := fitsK_nil hf
    have := hc 0 _ rfl
    simp only [List.length_cons, List.length_nil, Nat.zero_add, Nat.mul_one, Nat.add_zero] at this
    exact ⟨z0, p, hp, this⟩)
  subst hl
  exact ⟨a, cap, l, rfl, hlen, hA⟩
end Go.Proofs.Ytcefnihhlbeebaa
