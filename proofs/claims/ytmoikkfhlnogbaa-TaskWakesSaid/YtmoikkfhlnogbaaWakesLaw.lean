/-
  TaskWakes: the law answers true, whatever comes in.
-/
import Derived.Test.YtmoikkfhlnogbaaRows
import Derived.Test.YtmoikkfhlnogbaaWakes
import Derived.Test.YtmoikkfhlnogbaaLawFrame
import Derived.WalkKit
import Derived.ProofKit
import Derived.OpenShut
namespace Go.Proofs.Ytmoikkfhlnogbaa
set_option linter.unusedSimpArgs false
set_option linter.unusedVariables false
open Go.ChangeShapes Go.WideShapes Go.ChangeAt Go.RowKit Go.Sep Go.TaskM

theorem own : ownKnob Try.prog.godebug = none := by kernel_rfl
theorem laidOut : laidOutB Try.prog = true := by kernel_rfl
theorem flat34 : flatK Try.prog 5 34 = some [some .i64, some .i64, some .i64, some .i64, some .i64, some .i64, some .i64, some .i64, some .i64, some .i64, some .i64] := by kernel_rfl
theorem flat32 : flatK Try.prog 5 32 = some [some .i64, some .i64, some .i64, some .i64, some .i64, some .i64] := by kernel_rfl
theorem cells34 : Try.prog.cellsOf 34 = 11 := by kernel_rfl
theorem cells32 : Try.prog.cellsOf 32 = 6 := by kernel_rfl

theorem fits34 {cs : List Value} (h : fitsK cs [some .i64, some .i64, some .i64, some .i64, some .i64, some .i64, some .i64, some .i64, some .i64, some .i64, some .i64]) : ∃ d : Deed, cs = encA d := by
  obtain ⟨z0, cs, rfl, _, h⟩ := fitsK_cons h
  obtain ⟨z1, cs, rfl, _, h⟩ := fitsK_cons h
  obtain ⟨z2, cs, rfl, _, h⟩ := fitsK_cons h
  obtain ⟨z3, cs, rfl, _, h⟩ := fitsK_cons h
  obtain ⟨z4, cs, rfl, _, h⟩ := fitsK_cons h
  obtain ⟨z5, cs, rfl, _, h⟩ := fitsK_cons h
  obtain ⟨z6, cs, rfl, _, h⟩ := fitsK_cons h
  obtain ⟨z7, cs, rfl, _, h⟩ := fitsK_cons h
  obtain ⟨z8, cs, rfl, _, h⟩ := fitsK_cons h
  obtain ⟨z9, cs, rfl, _, h⟩ := fitsK_cons h
  obtain ⟨z10, cs, rfl, _, h⟩ := fitsK_cons h
  obtain rfl := fitsK_nil h
  exact ⟨⟨z0, z1, z2, z3, z4, ⟨z5, z6, z7, z8, z9, z10⟩⟩, rfl⟩
theorem fits32 {cs : List Value} (h : fitsK cs [some .i64, some .i64, some .i64, some .i64, some .i64, some .i64]) : ∃ d : Park, cs = encP d := by
  obtain ⟨z5, cs, rfl, _, h⟩ := fitsK_cons h
  obtain ⟨z6, cs, rfl, _, h⟩ := fitsK_cons h
  obtain ⟨z7, cs, rfl, _, h⟩ := fitsK_cons h
  obtain ⟨z8, cs, rfl, _, h⟩ := fitsK_cons h
  obtain ⟨z9, cs, rfl, _, h⟩ := fitsK_cons h
  obtain ⟨z10, cs, rfl, _, h⟩ := fitsK_cons h
  obtain rfl := fitsK_nil h
  exact ⟨⟨z5, z6, z7, z8, z9, z10⟩, rfl⟩

/-- The acts that came in. -/
theorem open_acts {H : Type} {enc : TypeId × Value → H} {W : World} {v : Value} {d : DataW H} {ps : List MemPlace} {b0 : Nat} (hv : Value.okWide Try.prog W .any b0 22 v) (h : DataW.Trod enc Try.prog W 0 (fun _ => true) true 22 v d ps) :
    ∃ (a : Option Addr) (cap : Nat) (l : List Deed), v = .slice a l.length cap ∧ l.length ≤ maxLen ∧ ActsAt W a l := by
  obtain ⟨a, len, cap, rfl, hlen, _, hR⟩ := open_slice_flat 5 Try.underlying22 flat34 (by rw [cells34]; rfl) hv h
  obtain ⟨l, hl, hA⟩ := exists_list (R := fun i (d : Deed) => ∃ p : Addr, a = some p ∧ ∀ j c, (encA d)[j]? = some c → W.cell? ((p.add (i * 11)).add j) = some c) len (fun i hi => by
    obtain ⟨p, cs, hp, hf, hc⟩ := hR i hi
    obtain ⟨d, rfl⟩ := fits34 hf
    exact ⟨d, p, hp, fun j c hj => by rw [Go.Deep.add_add]; exact hc j c hj⟩)
  subst hl
  exact ⟨a, cap, l, rfl, hlen, hA⟩
theorem open_park {H : Type} {enc : TypeId × Value → H} {W : World} {v : Value} {d : DataW H} {ps : List MemPlace} {b0 : Nat} (hv : Value.okWide Try.prog W .any b0 32 v) (h : DataW.Trod enc Try.prog W 0 (fun _ => true) true 32 v d ps) :
    ∃ k : Park, v = .agg (encP k).toArray := by
  obtain ⟨cs, rfl, _⟩ := okWide_struct Try.underlying32 hv
  obtain ⟨fuel, hf⟩ := h
  obtain ⟨k, hk⟩ := fits32 (trod_fits 5 fuel 32 _ _ _ flat32 hf (by rw [cells32]; rfl))
  have : cs = (encP k).toArray := by
    apply Array.toList_inj.1
    simpa [Value.cells] using hk
  exact ⟨k, by rw [this]⟩

theorem params5_ok : ∀ t ∈ Try.f5.params.toList, Try.prog.readableRec t = true ∧ t < Try.prog.types.size := by
  have h : Try.f5.params.toList.all (fun t => Try.prog.readableRec t && decide (t < Try.prog.types.size)) = true := by kernel_rfl
  intro t ht
  have := List.all_eq_true.1 h t ht
  simpa using this

set_option maxRecDepth 100000 in
theorem wakes_lifted (os : Os) (started : os.Started) (H : Type) (enc : TypeId × Value → H) :
    ReturnsInHanded {} Try.checked os 5 .any (Rows.taskWakesSpec.pre6 enc Try.prog Try.f5 Rows.taskWakesRow.domain false) (Rows.taskWakesSpec.post enc Try.prog Try.f5 false true false false) := by
  refine returnsInHanded_of_change (C := Try.checked) own started (by kernel_rfl) Try.func5
    (ChangeSpec.witness6 (enc := enc) (C := Try.checked) false ⟨#[], #[.slice none 0 0, .int .u8 0, .agg #[.int .i64 0, .int .i64 0, .int .i64 0, .int .i64 0, .int .i64 0, .int .i64 0], .int .i64 0], []⟩ 8 (by kernel_rfl) (by kernel_rfl) (by kernel_rfl) (by kernel_rfl)) ?_
  intro W base args ds gs before hval0 hW _ _
  have hval : ∀ (j : Nat) t v, Try.f5.params[j]? = some t → args[j]? = some v → Value.okWide Try.prog W .any base t v := hval0
  have hW' := hW
  obtain ⟨p, q, hA0, hV, rfl, _, _⟩ := hW
  have hA : DataW.TrodAll enc Try.prog W 0 (fun _ => true) true Try.f5.params.toList args.toList ds p := hA0
  rw [Try.params5] at hA hval
  obtain ⟨v0, vs0, d0, ds0, p0, q0, hargs, rfl, rfl, h0, r0⟩ := trodAll_cons hA
  obtain ⟨v1, vs1, d1, ds1, p1, q1, rfl, rfl, rfl, h1, r1⟩ := trodAll_cons r0
  obtain ⟨v2, vs2, d2, ds2, p2, q2, rfl, rfl, rfl, h2, r2⟩ := trodAll_cons r1
  obtain ⟨v3, vs3, d3, ds3, p3, q3, rfl, rfl, rfl, h3, r3⟩ := trodAll_cons r2
  obtain ⟨rfl, rfl, rfl⟩ := trodAll_nil r3
  obtain rfl : args = #[v0, v1, v2, v3] := by cases args; simp_all
  obtain ⟨rfl, rfl⟩ := trodVars_none hV
  obtain ⟨a, cap, l, rfl, hlen, hacts⟩ := open_acts (hval 0 22 v0 rfl rfl) h0
  obtain ⟨n, rfl, hd1, hp1, hn⟩ := open_int Try.underlying5 (hval 1 5 v1 rfl rfl) h1
  obtain ⟨k, rfl⟩ := open_park (hval 2 32 v2 rfl rfl) h2
  obtain ⟨x, rfl, hd3, hp3, _⟩ := open_int Try.underlying2 (hval 3 2 v3 rfl rfl) h3
  have hn2 : 0 ≤ n ∧ n ≤ 255 := by
    have e1 : IntKind.u8.min = 0 := rfl
    have e2 : IntKind.u8.max = 255 := rfl
    simp only [Lit.wf, Bool.and_eq_true, decide_eq_true_eq] at hn
    omega
  refine (wakes_walk a cap l n hn2.1 hn2.2 k x W (hid hacts) (by have : maxLen = 9223372036854775807 := rfl; omega)).mono fun e W' ⟨he, hg⟩ => ?_
  subst he
  exact ⟨_, rfl, law_true laidOut params5_ok rfl rfl Try.underlying4 rfl hW' (hg.below (i := 0) rfl)⟩

theorem wakes_holds : Rows.TaskWakesSaid :=
  OpenClaim.holds_of_wide 5 Try.f5 rfl rfl rfl rfl rfl rfl rfl ⟨rfl, rfl, rfl, rfl, rfl⟩ rfl rfl rfl rfl rfl (by kernel_rfl) Try.func5 (by kernel_rfl)
    (of_decide_eq_true (by kernel_rfl)) (by unfold Func.isWrapper; first | (rw [if_pos (by decide +kernel)]; kernel_rfl) | (rw [if_neg (by decide +kernel)]; exact ⟨rfl, rfl⟩))
    (fun os started H enc _ => wakes_lifted os started H enc)
end Go.Proofs.Ytmoikkfhlnogbaa
