/-
  '!=' of two tasks, and the array of thirty tasks.
-/
import Derived.Test.YtmoikkfhlnogbaaEq
import Derived.Test.YtmoikkfhlnogbaaSepMore
import Derived.Test.YtmoikkfhlnogbaaSepList
namespace Go.Proofs.Ytmoikkfhlnogbaa
set_option linter.unusedSimpArgs false
set_option linter.unusedVariables false
open Go.RowKit Go.Sep Go.TaskM

theorem equalT (s t : Task) (w : World) : (Op.equal 53 (.agg (encT s).toArray) (.agg (encT t).toArray)).run Try.prog w = .ok (decide (s = t)) w := by
  have h := eqT s t w
  have h0 : binOp .eql 53 (.agg (encT s).toArray) (.agg (encT t).toArray) = (do pure (.bool (← Op.equal 53 (.agg (encT s).toArray) (.agg (encT t).toArray)))) := rfl
  rw [h0, Sem.run_bind] at h
  cases hE : (Op.equal 53 (.agg (encT s).toArray) (.agg (encT t).toArray)).run Try.prog w with
  | ok b w' =>
    rw [hE, Result.andThen_ok, Sem.run_pure] at h
    simp only [Result.ok.injEq, Value.bool.injEq] at h
    obtain ⟨rfl, rfl⟩ := h
    rfl
  | halt x w' => rw [hE] at h; cases h
theorem neT (s t : Task) (w : World) : (binOp .neq 53 (.agg (encT s).toArray) (.agg (encT t).toArray)).run Try.prog w = .ok (.bool (!decide (s = t))) w := by
  have h0 : binOp .neq 53 (.agg (encT s).toArray) (.agg (encT t).toArray) = (do pure (.bool (!(← Op.equal 53 (.agg (encT s).toArray) (.agg (encT t).toArray))))) := rfl
  rw [h0, Sem.run_bind, equalT, Result.andThen_ok, Sem.run_pure]
theorem run_neT {o : Oper} {a : Act} {w : World} {x y : Operand} {yt : TypeId} (s t : Task) (ho : o.op = .binOp .neq 53 x y yt) (hx : a.eval x = .agg (encT s).toArray) (hy : a.eval y = .agg (encT t).toArray) :
    (execOp a.eval o).run Try.prog w = .ok (.value (.bool (!decide (s = t)))) w := by
  have h' := neT s t w
  unfold execOp
  simp only [ho, hx, hy, eqGuard, Sem.run_bind, Sem.run_pure, run_program, Result.andThen_ok, noGuard53, h']
  simp only [Bool.not_false, if_true, Bool.not_eq_true', Bool.false_eq_true, if_false, ite_self, Sem.run_ite, Sem.run_pure, Result.andThen_ok, h']
  simp [h']

/-- The array's zero. -/
def zeros30 : List Value := (List.replicate 30 noTask).flatMap encT
theorem ti62z : Sep.TI Try.prog 62 (.agg zeros30.toArray) 510 4080 := ⟨by kernel_rfl⟩
theorem zeros30_length : zeros30.length = 510 := by
  unfold zeros30; rw [flat_len (f := encT) encT_length]; rfl
theorem zeros30_one : ∀ v ∈ zeros30, v.oneCell' = true := by
  intro v hv
  obtain ⟨t, _, hv⟩ := List.mem_flatMap.1 hv
  exact encT_one t v hv
theorem under62 : Try.prog.underlying 62 = some (.array 30 53) := by kernel_rfl
end Go.Proofs.Ytmoikkfhlnogbaa
