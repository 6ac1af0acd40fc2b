/-
  CondLeaves: the law answers true, whatever comes in: CondLeaves: the law answers true, whatever comes in: who leaves is never told, and all others are, as if that one had never come. For all lists of acts and all who leave; no condition.
-/
import Derived.Test.YtcefnihhlbeebaaRows
import Derived.Test.YtcefnihhlbeebaaCondLeaves
namespace Go.Proofs.Ytcefnihhlbeebaa
set_option linter.unusedSimpArgs false
set_option linter.unusedVariables false
open Go.ChangeShapes Go.WideShapes Go.ChangeAt Go.RowKit Go.Sep

theorem params_ok : ∀ t ∈ Try.f5.params.toList, Try.prog.readableRec t = true ∧ t < Try.prog.types.size := by
  have h : Try.f5.params.toList.all (fun t => Try.prog.readableRec t && decide (t < Try.prog.types.size)) = true := by kernel_rfl
  intro t ht
  have := List.all_eq_true.1 h t ht
  simpa using this

set_option maxRecDepth 100000 in
theorem cond_leaves_lifted (os : Os) (started : os.Started) (H : Type) (enc : TypeId × Value → H) :
    ReturnsInHanded {} Try.checked os 5 .any (Rows.condLeavesSpec.pre6 enc Try.prog Try.f5 Rows.condLeavesRow.domain false) (Rows.condLeavesSpec.post enc Try.prog Try.f5 false true false false) := by
  refine returnsInHanded_of_change (C := Try.checked) own started (by kernel_rfl) Try.func5
    (ChangeSpec.witness6 (enc := enc) (C := Try.checked) false ⟨#[], #[.slice none 0 0, .int .u8 0], []⟩ 6 (by kernel_rfl) (by kernel_rfl) (by kernel_rfl) (by kernel_rfl)) ?_
  intro W base args ds gs before hval0 hW _ _
  have hval : ∀ (j : Nat) t v, Try.f5.params[j]? = some t → args[j]? = some v → Value.okWide Try.prog W .any base t v := hval0
  have hW' := hW
  obtain ⟨p, q, hA0, hV, rfl, _, _⟩ := hW
  have hA : DataW.TrodAll enc Try.prog W 0 (fun _ => true) true Try.f5.params.toList args.toList ds p := hA0
  rw [Try.params5] at hA hval
  obtain ⟨v0, vs0, d0', ds0, p0, q0, hargs, rfl, rfl, h0, r0⟩ := trodAll_cons hA
  obtain ⟨v1, vs1, d1', ds1, p1, q1, rfl, rfl, rfl, h1, r1⟩ := trodAll_cons r0
  obtain ⟨rfl, rfl, rfl⟩ := trodAll_nil r1
  obtain rfl : args = #[v0, v1] := by cases args; simp_all
  obtain ⟨rfl, rfl⟩ := trodVars_none hV
  obtain ⟨a0, cap0, l0, rfl, hlen0, hat0⟩ := open_acts (hval 0 22 v0 rfl rfl) h0
  obtain ⟨n1, rfl, _, _, hn1⟩ := open_int Try.underlying5 (hval 1 5 v1 rfl rfl) h1
  refine (cond_leaves_walk W a0 cap0 l0 (hid hat0) (by have : maxLen = 9223372036854775807 := rfl; omega) n1 (hid (wf_u8 hn1))).mono fun e W' ⟨he, hg⟩ => ?_
  subst he
  exact ⟨_, rfl, law_true laidOut params_ok rfl rfl Try.underlying4 rfl hW' (hg.below (i := 0) rfl)⟩

theorem cond_leaves_holds : Rows.CondLeavesSaid :=
  OpenClaim.holds_of_wide 5 Try.f5 rfl rfl rfl rfl rfl rfl rfl ⟨rfl, rfl, rfl, rfl, rfl⟩ rfl rfl rfl rfl rfl (by kernel_rfl) Try.func5 (by kernel_rfl)
    (of_decide_eq_true (by kernel_rfl)) (by unfold Func.isWrapper; first | (rw [if_pos (by decide +kernel)]; kernel_rfl) | (rw [if_neg (by decide +kernel)]; exact ⟨rfl, rfl⟩))
    (fun os started H enc _ => cond_leaves_lifted os started H enc)
end Go.Proofs.Ytcefnihhlbeebaa
