/-
  How the tasks' data lie in memory.
-/
import Derived.Test.YtmoikkfhlnogbaaTypes
import Derived.Test.YtmoikkfhlnogbaaModel
namespace Go.Proofs.Ytmoikkfhlnogbaa
set_option linter.unusedSimpArgs false
set_option linter.unusedVariables false
open Go.RowKit Go.Sep Go.TaskM

def ei (n : Int) : Value := .int .i64 n
def encP (p : Park) : List Value := [.int .i64 p.kind, .int .i64 p.obj, .int .i64 p.ctx, .int .i64 p.reg, .int .i64 p.lock, .int .i64 p.n]
def encT (t : Task) : List Value :=
  [.int .i64 t.state, .int .i64 t.prog, .int .i64 t.at_, .int .i64 t.team, .int .i64 t.r0, .int .i64 t.r1, .int .i64 t.r2, .int .i64 t.r3, .int .i64 t.r4, .int .i64 t.r5,
   .int .i64 t.wait.kind, .int .i64 t.wait.obj, .int .i64 t.wait.ctx, .int .i64 t.wait.reg, .int .i64 t.wait.lock, .int .i64 t.wait.n, .int .i64 t.err]
theorem encT_length (t : Task) : (encT t).length = 17 := rfl
theorem encP_length (t : Park) : (encP t).length = 6 := rfl
theorem encT_one (t : Task) : ∀ v ∈ encT t, v.oneCell' = true := by simp [encT, Value.oneCell']
theorem encP_one (t : Park) : ∀ v ∈ encP t, v.oneCell' = true := by simp [encP, Value.oneCell']
theorem encT_inj {s t : Task} : encT s = encT t ↔ s = t := by
  constructor
  · intro h
    obtain ⟨s1, s2, s3, s4, s5, s6, s7, s8, s9, s10, ⟨p1, p2, p3, p4, p5, p6⟩, s11⟩ := s
    obtain ⟨t1, t2, t3, t4, t5, t6, t7, t8, t9, t10, ⟨q1, q2, q3, q4, q5, q6⟩, t11⟩ := t
    simp only [encT, List.cons.injEq, Value.int.injEq] at h
    simp_all
  · rintro rfl; rfl
theorem encT_set_reg (t : Task) (reg x : Int) (h0 : 0 ≤ reg) (h1 : reg < 6) : (encT t).set (4 + reg.toNat) (.int .i64 x) = encT (t.put reg x) := by
  have : reg = 0 ∨ reg = 1 ∨ reg = 2 ∨ reg = 3 ∨ reg = 4 ∨ reg = 5 := by omega
  rcases this with rfl | rfl | rfl | rfl | rfl | rfl <;> rfl
theorem put_out (t : Task) (reg x : Int) (h : reg < 0 ∨ 6 ≤ reg) : t.put reg x = t := by
  unfold Task.put
  have : reg ≠ 0 ∧ reg ≠ 1 ∧ reg ≠ 2 ∧ reg ≠ 3 ∧ reg ≠ 4 ∧ reg ≠ 5 := by omega
  simp [this]

/-- The program's table. -/
def IsTable (p : Nat) (T : Table) : HProp := fun h => ∃ v, sepL [pt p [v, .int .i64 T.most] 68, Sl 53 17 v T.l.length (T.l.flatMap encT)] h
/-- The document's. -/
def IsRef (p : Nat) (T : Table) : HProp := fun h => ∃ v, sepL [pt p [v, .int .i64 T.most] 47, Sl 57 17 v T.l.length (T.l.flatMap encT)] h

end Go.Proofs.Ytmoikkfhlnogbaa
