/-
  RingFirst: the law answers true, whatever nodes are put, in whatever order, and whichever of them are dropped: who comes first is taken first.
-/
import Derived.Test.YtmjpppemdjknoaaRows
import Derived.Test.YtmjpppemdjknoaaFirst
import Derived.Test.YtmjpppemdjknoaaFlat
import Derived.Test.YtmjpppemdjknoaaLawFrame
import Derived.WalkKit
import Derived.ProofKit
import Derived.OpenShut
namespace Go.Proofs.Ytmjpppemdjknoaa
set_option linter.unusedSimpArgs false
set_option linter.unusedVariables false
open Go.ChangeShapes Go.WideShapes Go.ChangeAt Go.RowKit Go.Sep Go.RingM

theorem own : ownKnob Try.prog.godebug = none := by kernel_rfl
theorem laidOut : laidOutB Try.prog = true := by kernel_rfl
theorem flatI : flatK Try.prog 2 3 = some [some .i64] := by kernel_rfl
theorem flatB : flatK Try.prog 2 4 = some [none] := by kernel_rfl
theorem cellsI : Try.prog.cellsOf 3 = 1 := by kernel_rfl
theorem cellsB : Try.prog.cellsOf 4 = 1 := by kernel_rfl
theorem open_ints {H : Type} {enc : TypeId × Value → H} {W : World} {v : Value} {d : DataW H} {ps : List MemPlace} {b0 : Nat} (hv : Value.okWide Try.prog W .any b0 38 v) (h : DataW.Trod enc Try.prog W 0 (fun _ => true) true 38 v d ps) :
    ∃ (a : Option Addr) (cap : Nat) (l : List Int), v = .slice a l.length cap ∧ l.length ≤ maxLen ∧ IntsAt W a l := by
  obtain ⟨a, len, cap, rfl, hlen, _, hR⟩ := open_slice_flat 2 Try.underlying38 flatI (by rw [cellsI]; rfl) hv h
  obtain ⟨l, hl, hA⟩ := exists_list (R := fun i (n : Int) => ∃ p : Addr, a = some p ∧ W.cell? (p.add i) = some (.int .i64 n)) len (fun i hi => by
    obtain ⟨p, cs, hp, hf, hc⟩ := hR i hi
    obtain ⟨z0, cs, rfl, _, hf⟩ := fitsK_cons hf
    obtain rfl := fitsK_nil hf
    have := hc 0 _ rfl
    simp only [List.length_cons, List.length_nil, Nat.zero_add, Nat.mul_one, Nat.add_zero] at this
    exact ⟨z0, p, hp, this⟩)
  subst hl
  exact ⟨a, cap, l, rfl, hlen, hA⟩
theorem open_bools {H : Type} {enc : TypeId × Value → H} {W : World} {v : Value} {d : DataW H} {ps : List MemPlace} {b0 : Nat} (hv : Value.okWide Try.prog W .any b0 39 v) (h : DataW.Trod enc Try.prog W 0 (fun _ => true) true 39 v d ps) :
    ∃ (a : Option Addr) (cap : Nat) (l : List Bool), v = .slice a l.length cap ∧ l.length ≤ maxLen ∧ BoolsAt W a l := by
  obtain ⟨a, len, cap, rfl, hlen, _, hR⟩ := open_slice_flat 2 Try.underlying39 flatB (by rw [cellsB]; rfl) hv h
  obtain ⟨l, hl, hA⟩ := exists_list (R := fun i (n : Bool) => ∃ p : Addr, a = some p ∧ W.cell? (p.add i) = some (.bool n)) len (fun i hi => by
    obtain ⟨p, cs, hp, hf, hc⟩ := hR i hi
    obtain ⟨z0, cs, rfl, hf2⟩ := fitsK_consB hf
    obtain rfl := fitsK_nil hf2
    have := hc 0 _ rfl
    simp only [List.length_cons, List.length_nil, Nat.zero_add, Nat.mul_one, Nat.add_zero] at this
    exact ⟨z0, p, hp, this⟩)
  subst hl
  exact ⟨a, cap, l, rfl, hlen, hA⟩

theorem params4_ok : ∀ t ∈ Try.f4.params.toList, Try.prog.readableRec t = true ∧ t < Try.prog.types.size := by
  have h : Try.f4.params.toList.all (fun t => Try.prog.readableRec t && decide (t < Try.prog.types.size)) = true := by kernel_rfl
  intro t ht
  have := List.all_eq_true.1 h t ht
  simpa using this

set_option maxRecDepth 100000 in
theorem first_lifted (os : Os) (started : os.Started) (H : Type) (enc : TypeId × Value → H) :
    ReturnsInHanded {} Try.checked os 4 .any (Rows.ringFirstSpec.pre6 enc Try.prog Try.f4 Rows.ringFirstRow.domain false) (Rows.ringFirstSpec.post enc Try.prog Try.f4 false true false false) := by
  refine returnsInHanded_of_change (C := Try.checked) own started (by kernel_rfl) Try.func4
    (ChangeSpec.witness6 (enc := enc) (C := Try.checked) false ⟨#[], #[.slice none 0 0, .slice none 0 0], []⟩ 6 (by kernel_rfl) (by kernel_rfl) (by kernel_rfl) (by kernel_rfl)) ?_
  intro W base args ds gs before hval0 hW _ _
  have hval : ∀ (j : Nat) t v, Try.f4.params[j]? = some t → args[j]? = some v → Value.okWide Try.prog W .any base t v := hval0
  have hW' := hW
  obtain ⟨p, q, hA0, hV, rfl, _, _⟩ := hW
  have hA : DataW.TrodAll enc Try.prog W 0 (fun _ => true) true Try.f4.params.toList args.toList ds p := hA0
  rw [Try.params4] at hA hval
  obtain ⟨v0, vs0, d0, ds0, p0, q0, hargs, rfl, rfl, h0, r0⟩ := trodAll_cons hA
  obtain ⟨v1, vs1, d1, ds1, p1, q1, rfl, rfl, rfl, h1, r1⟩ := trodAll_cons r0
  obtain ⟨rfl, rfl, rfl⟩ := trodAll_nil r1
  obtain rfl : args = #[v0, v1] := by cases args; simp_all
  obtain ⟨rfl, rfl⟩ := trodVars_none hV
  obtain ⟨a, cap, l, rfl, hlen, hints⟩ := open_ints (hval 0 38 v0 rfl rfl) h0
  obtain ⟨a2, cap2, l2, rfl, hlen2, hbools⟩ := open_bools (hval 1 39 v1 rfl rfl) h1
  refine (first_walk a cap l a2 cap2 l2 W (hid hints) (hid hbools) (by have : maxLen = 9223372036854775807 := rfl; omega) (by have : maxLen = 9223372036854775807 := rfl; omega)).mono fun e W' ⟨he, hg⟩ => ?_
  subst he
  exact ⟨_, rfl, law_true laidOut params4_ok rfl rfl Try.underlying4 rfl hW' (hg.below (i := 0) rfl)⟩

theorem first_holds : Rows.RingFirstSaid :=
  OpenClaim.holds_of_wide 4 Try.f4 rfl rfl rfl rfl rfl rfl rfl ⟨rfl, rfl, rfl, rfl, rfl⟩ rfl rfl rfl rfl rfl (by kernel_rfl) Try.func4 (by kernel_rfl)
    (of_decide_eq_true (by kernel_rfl)) (by unfold Func.isWrapper; first | (rw [if_pos (by decide +kernel)]; kernel_rfl) | (rw [if_neg (by decide +kernel)]; exact ⟨rfl, rfl⟩))
    (fun os started H enc _ => first_lifted os started H enc)
end Go.Proofs.Ytmjpppemdjknoaa
