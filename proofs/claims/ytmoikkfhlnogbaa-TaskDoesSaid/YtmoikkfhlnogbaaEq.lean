/-
  '==' of two tasks.
-/
import Derived.Test.YtmoikkfhlnogbaaEnc
import Derived.Test.YtmoikkfhlnogbaaRegion
namespace Go.Proofs.Ytmoikkfhlnogbaa
set_option linter.unusedSimpArgs false
set_option linter.unusedVariables false
open Go.RowKit Go.Sep Go.TaskM

theorem fields53 : (Try.prog.fieldsOf 53).toList.map (fun f => (f.name, f.type, f.offset)) = [("State", 3, 0), ("Prog", 3, 1), ("At", 3, 2), ("Team", 3, 3), ("Regs", 51, 4), ("Wait", 32, 10), ("Err", 2, 16)] := by kernel_rfl
theorem stood53 : Try.prog.stoodInHeld 53 = false := by kernel_rfl
theorem arr51 (d : Nat) (s0 s1 s2 s3 s4 s5 t0 t1 t2 t3 t4 t5 : Int) (w : World) :
    (Op.equalIn (d + 2) 51 (.agg #[.int .i64 s0, .int .i64 s1, .int .i64 s2, .int .i64 s3, .int .i64 s4, .int .i64 s5]) (.agg #[.int .i64 t0, .int .i64 t1, .int .i64 t2, .int .i64 t3, .int .i64 t4, .int .i64 t5])).run Try.prog w =
      .ok (decide (s0 = t0) && (decide (s1 = t1) && (decide (s2 = t2) && (decide (s3 = t3) && (decide (s4 = t4) && decide (s5 = t5)))))) w := by
  have hs : ∀ w, (sizeOf 2).run Try.prog w = .ok 1 w := fun w => ti2.sizeOf_run w
  have ha : ∀ w, (isAgg 2).run Try.prog w = .ok false w := fun w => flat2.run w
  have he : ∀ (x y : Int) w, (Op.equalIn (d + 1) 2 (.int .i64 x) (.int .i64 y)).run Try.prog w = .ok (x == y) w := fun x y w => run_equalIn_int w d 2 .i64 .i64 x y Try.underlying2
  unfold Op.equalIn
  simp [run_underlying Try.underlying51, hs, Std.Legacy.Range.forIn_eq_forIn_range', List.range', part, ha, he]
  exact ifok (ifok (ifok (ifok (ifok ifok1))))
set_option maxHeartbeats 400000 in
theorem eq53 (s0 s1 s2 s3 s4 s5 s6 s7 s8 s9 s10 s11 s12 s13 s14 s15 s16 t0 t1 t2 t3 t4 t5 t6 t7 t8 t9 t10 t11 t12 t13 t14 t15 t16 : Int) (w : World) :
    (binOp .eql 53 (.agg #[.int .i64 s0, .int .i64 s1, .int .i64 s2, .int .i64 s3, .int .i64 s4, .int .i64 s5, .int .i64 s6, .int .i64 s7, .int .i64 s8, .int .i64 s9, .int .i64 s10, .int .i64 s11, .int .i64 s12, .int .i64 s13, .int .i64 s14, .int .i64 s15, .int .i64 s16])
      (.agg #[.int .i64 t0, .int .i64 t1, .int .i64 t2, .int .i64 t3, .int .i64 t4, .int .i64 t5, .int .i64 t6, .int .i64 t7, .int .i64 t8, .int .i64 t9, .int .i64 t10, .int .i64 t11, .int .i64 t12, .int .i64 t13, .int .i64 t14, .int .i64 t15, .int .i64 t16])).run Try.prog w =
    .ok (.bool (decide (s0 = t0) && (decide (s1 = t1) && (decide (s2 = t2) && (decide (s3 = t3) && ((decide (s4 = t4) && (decide (s5 = t5) && (decide (s6 = t6) && (decide (s7 = t7) && (decide (s8 = t8) && decide (s9 = t9)))))) &&
      (decide (s10 = t10) && (decide (s11 = t11) && (decide (s12 = t12) && (decide (s13 = t13) && (decide (s14 = t14) && (decide (s15 = t15) && decide (s16 = t16))))))))))))) w := by
  have h51 := fun w => arr51 9997 s4 s5 s6 s7 s8 s9 t4 t5 t6 t7 t8 t9 w
  simp only [Nat.reduceAdd] at h51
  generalize (decide (s4 = t4) && _) = q at h51 ⊢
  go_simp
  refine ifokV (ifokV (ifokV (ifokV ?_)))
  cases q
  · simp
  · simp only [Bool.true_eq_false, if_false, Bool.true_and]
    exact ifokV (ifokV (ifokV (ifokV (ifokV (ifokV ifokV1)))))
theorem eqT (s t : Task) (w : World) : (binOp .eql 53 (.agg (encT s).toArray) (.agg (encT t).toArray)).run Try.prog w = .ok (.bool (decide (s = t))) w := by
  have h : decide (s = t) = (decide (s.state = t.state) && (decide (s.prog = t.prog) && (decide (s.at_ = t.at_) && (decide (s.team = t.team) && ((decide (s.r0 = t.r0) && (decide (s.r1 = t.r1) && (decide (s.r2 = t.r2) && (decide (s.r3 = t.r3) && (decide (s.r4 = t.r4) && decide (s.r5 = t.r5)))))) &&
      (decide (s.wait.kind = t.wait.kind) && (decide (s.wait.obj = t.wait.obj) && (decide (s.wait.ctx = t.wait.ctx) && (decide (s.wait.reg = t.wait.reg) && (decide (s.wait.lock = t.wait.lock) && (decide (s.wait.n = t.wait.n) && decide (s.err = t.err)))))))))))) := by
    obtain ⟨s1, s2, s3, s4, s5, s6, s7, s8, s9, s10, ⟨p1, p2, p3, p4, p5, p6⟩, s11⟩ := s
    obtain ⟨t1, t2, t3, t4, t5, t6, t7, t8, t9, t10, ⟨q1, q2, q3, q4, q5, q6⟩, t11⟩ := t
    rw [Bool.eq_iff_iff]
    simp only [decide_eq_true_eq, Bool.and_eq_true, Task.mk.injEq, Park.mk.injEq]
    constructor
    · rintro ⟨h1, h2, h3, h4, h5, h6, h7, h8, h9, h10, ⟨h11, h12, h13, h14, h15, h16⟩, h17⟩; exact ⟨h1, h2, h3, h4, ⟨h5, h6, h7, h8, h9, h10⟩, h11, h12, h13, h14, h15, h16, h17⟩
    · rintro ⟨h1, h2, h3, h4, ⟨h5, h6, h7, h8, h9, h10⟩, h11, h12, h13, h14, h15, h16, h17⟩; exact ⟨h1, h2, h3, h4, h5, h6, h7, h8, h9, h10, ⟨h11, h12, h13, h14, h15, h16⟩, h17⟩
  rw [h]
  exact eq53 ..
theorem noGuard53 : Try.prog.eqGuardType Try.prog.depth 53 = false := by kernel_rfl
def zeros17 : Array Value := #[.int .i64 0, .int .i64 0, .int .i64 0, .int .i64 0, .int .i64 0, .int .i64 0, .int .i64 0, .int .i64 0, .int .i64 0, .int .i64 0, .int .i64 0, .int .i64 0, .int .i64 0, .int .i64 0, .int .i64 0, .int .i64 0, .int .i64 0]
theorem wp_eqT {o : Oper} {a : Act} {w : World} {K : Act → World → Prop} {Q : Exit → Act → World → Prop} {x y : Operand} {yt : TypeId} (s t : Task) (ho : o.op = .binOp .eql 53 x y yt) (hx : a.eval x = .agg (encT s).toArray) (hy : a.eval y = .agg (encT t).toArray)
    (h : K (a.put o.dst (.bool (decide (s = t)))) w) : o.wp Try.prog a w K Q := by
  have h' := eqT s t w
  unfold Oper.wp execOp
  simp only [ho, hx, hy, eqGuard, Sem.run_bind, Sem.run_pure, run_program, Result.andThen_ok, noGuard53, h']
  simp only [Bool.not_false, if_true, Bool.not_eq_true', Bool.false_eq_true, if_false, ite_self, Sem.run_ite, Sem.run_pure, Result.andThen_ok, h']
  simp [h']
  exact h
theorem wp_eqTz {o : Oper} {a : Act} {w : World} {K : Act → World → Prop} {Q : Exit → Act → World → Prop} {x y : Operand} {yt : TypeId} (s : Task) (ho : o.op = .binOp .eql 53 x y yt) (hx : a.eval x = .agg (encT s).toArray) (hy : a.eval y = .agg zeros17)
    (h : K (a.put o.dst (.bool s.isNo)) w) : o.wp Try.prog a w K Q := wp_eqT s noTask ho hx hy h
end Go.Proofs.Ytmoikkfhlnogbaa
