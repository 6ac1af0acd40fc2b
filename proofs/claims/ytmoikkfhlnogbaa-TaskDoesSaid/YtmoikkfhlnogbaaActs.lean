/-
  The acts that come in: how they lie in the world in which the law begins.
-/
import Derived.Test.YtmoikkfhlnogbaaRows
import Derived.Test.YtmoikkfhlnogbaaWalkG
import Derived.Test.YtmoikkfhlnogbaaLawFrame
import Derived.WalkKit
import Derived.ProofKit
import Derived.OpenShut
namespace Go.Proofs.Ytmoikkfhlnogbaa
set_option linter.unusedSimpArgs false
set_option linter.unusedVariables false
open Go.ChangeShapes Go.WideShapes Go.ChangeAt Go.RowKit Go.Sep Go.TaskM

/-- The acts that came in: as they lie in the world in which the law began. -/
def ActsAt (e : World) (a : Option Addr) (l : List Deed) : Prop := ∀ (i : Nat) (d : Deed), l[i]? = some d → ∃ p : Addr, a = some p ∧ ∀ j c, (encA d)[j]? = some c → e.cell? ((p.add (i * 11)).add j) = some c
theorem encA_one (d : Deed) : ∀ v ∈ encA d, v.oneCell' = true := by simp [encA, Value.oneCell']


theorem own : ownKnob Try.prog.godebug = none := by kernel_rfl
theorem laidOut : laidOutB Try.prog = true := by kernel_rfl
theorem flat34 : flatK Try.prog 5 34 = some [some .i64, some .i64, some .i64, some .i64, some .i64, some .i64, some .i64, some .i64, some .i64, some .i64, some .i64] := by kernel_rfl
theorem flat32 : flatK Try.prog 5 32 = some [some .i64, some .i64, some .i64, some .i64, some .i64, some .i64] := by kernel_rfl
theorem cells34 : Try.prog.cellsOf 34 = 11 := by kernel_rfl
theorem cells32 : Try.prog.cellsOf 32 = 6 := by kernel_rfl

theorem fits34 {cs : List Value} (h : fitsK cs [some .i64, some .i64, some .i64, some .i64, some .i64, some .i64, some .i64, some .i64, some .i64, some .i64, some .i64]) : ∃ d : Deed, cs = encA d := by
  obtain ⟨z0, cs, rfl, _, h⟩ := fitsK_cons h
  obtain ⟨z1, cs, rfl, _, h⟩ := fitsK_cons h
  obtain ⟨z2, cs, rfl, _, h⟩ := fitsK_cons h
  obtain ⟨z3, cs, rfl, _, h⟩ := fitsK_cons h
  obtain ⟨z4, cs, rfl, _, h⟩ := fitsK_cons h
  obtain ⟨z5, cs, rfl, _, h⟩ := fitsK_cons h
  obtain ⟨z6, cs, rfl, _, h⟩ := fitsK_cons h
  obtain ⟨z7, cs, rfl, _, h⟩ := fitsK_cons h
  obtain ⟨z8, cs, rfl, _, h⟩ := fitsK_cons h
  obtain ⟨z9, cs, rfl, _, h⟩ := fitsK_cons h
  obtain ⟨z10, cs, rfl, _, h⟩ := fitsK_cons h
  obtain rfl := fitsK_nil h
  exact ⟨⟨z0, z1, z2, z3, z4, ⟨z5, z6, z7, z8, z9, z10⟩⟩, rfl⟩
theorem fits32 {cs : List Value} (h : fitsK cs [some .i64, some .i64, some .i64, some .i64, some .i64, some .i64]) : ∃ d : Park, cs = encP d := by
  obtain ⟨z5, cs, rfl, _, h⟩ := fitsK_cons h
  obtain ⟨z6, cs, rfl, _, h⟩ := fitsK_cons h
  obtain ⟨z7, cs, rfl, _, h⟩ := fitsK_cons h
  obtain ⟨z8, cs, rfl, _, h⟩ := fitsK_cons h
  obtain ⟨z9, cs, rfl, _, h⟩ := fitsK_cons h
  obtain ⟨z10, cs, rfl, _, h⟩ := fitsK_cons h
  obtain rfl := fitsK_nil h
  exact ⟨⟨z5, z6, z7, z8, z9, z10⟩, rfl⟩

/-- The acts that came in. -/
theorem open_acts {H : Type} {enc : TypeId × Value → H} {W : World} {v : Value} {d : DataW H} {ps : List MemPlace} {b0 : Nat} (hv : Value.okWide Try.prog W .any b0 22 v) (h : DataW.Trod enc Try.prog W 0 (fun _ => true) true 22 v d ps) :
    ∃ (a : Option Addr) (cap : Nat) (l : List Deed), v = .slice a l.length cap ∧ l.length ≤ maxLen ∧ ActsAt W a l := by
  obtain ⟨a, len, cap, rfl, hlen, _, hR⟩ := open_slice_flat 5 Try.underlying22 flat34 (by rw [cells34]; rfl) hv h
  obtain ⟨l, hl, hA⟩ := exists_list (R := fun i (d : Deed) => ∃ p : Addr, a = some p ∧ ∀ j c, (encA d)[j]? = some c → W.cell? ((p.add (i * 11)).add j) = some c) len (fun i hi => by
    obtain ⟨p, cs, hp, hf, hc⟩ := hR i hi
    obtain ⟨d, rfl⟩ := fits34 hf
    exact ⟨d, p, hp, fun j c hj => by rw [Go.Deep.add_add]; exact hc j c hj⟩)
  subst hl
  exact ⟨a, cap, l, rfl, hlen, hA⟩
theorem open_park {H : Type} {enc : TypeId × Value → H} {W : World} {v : Value} {d : DataW H} {ps : List MemPlace} {b0 : Nat} (hv : Value.okWide Try.prog W .any b0 32 v) (h : DataW.Trod enc Try.prog W 0 (fun _ => true) true 32 v d ps) :
    ∃ k : Park, v = .agg (encP k).toArray := by
  obtain ⟨cs, rfl, _⟩ := okWide_struct Try.underlying32 hv
  obtain ⟨fuel, hf⟩ := h
  obtain ⟨k, hk⟩ := fits32 (trod_fits 5 fuel 32 _ _ _ flat32 hf (by rw [cells32]; rfl))
  have : cs = (encP k).toArray := by
    apply Array.toList_inj.1
    simpa [Value.cells] using hk
  exact ⟨k, by rw [this]⟩
end Go.Proofs.Ytmoikkfhlnogbaa
