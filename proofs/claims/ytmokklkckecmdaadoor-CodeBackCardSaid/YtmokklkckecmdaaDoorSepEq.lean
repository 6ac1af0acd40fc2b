/-
  '==' and '!=' of structs, and a load of several cells that are known one by one.
-/
import Derived.Test.YtmokklkckecmdaaDoorSepMore
namespace Go.Sep
set_option linter.unusedSimpArgs false
set_option linter.unusedVariables false
section
variable {P : Program} {a : Act} {w : World} {o : Oper}
theorem run_loadRd {T : TypeId} {x : Operand} {z : Value} {n k b off : Nat} {vs : List Value} [ti : TI P T z n k] [ag : Agg P T] (ho : o.op = .load T x) (hx : a.eval x = .pointer (some ⟨b, off, none⟩))
    (hl : vs.length = n) (hv : ∀ (j : Nat) (v : Value), vs[j]? = some v → w.cell? ⟨b, off + j, none⟩ = some v) : (execOp a.eval o).run P w = .ok (.value (.agg vs.toArray)) w := by
  have hrun : (loadCells ⟨b, off, none⟩ vs.length).run P w = .ok vs.toArray w :=
    run_loadCells_list (P := P) w ⟨b, off, none⟩ vs (fun j v hj => by
      have hadd : (⟨b, off, none⟩ : Addr).add j = ⟨b, off + j, none⟩ := by unfold Addr.add; split <;> simp_all
      rw [hadd]; exact hv j v hj)
  rw [hl] at hrun
  unfold execOp
  simp only [ho, hx, Instr.loadAt, Instr.sureAddr, loadVar, Sem.run_bind, Sem.run_pure, Result.andThen_ok, ag.run, if_true, ti.sizeOf_run, hrun]
theorem run_loadAd {T : TypeId} {x : Operand} {z : Value} {n k : Nat} {ad : Addr} {vs : List Value} [ti : TI P T z n k] [ag : Agg P T] (ho : o.op = .load T x) (hx : a.eval x = .pointer (some ad))
    (hl : vs.length = n) (hv : ∀ (j : Nat) (v : Value), vs[j]? = some v → w.cell? (ad.add j) = some v) : (execOp a.eval o).run P w = .ok (.value (.agg vs.toArray)) w := by
  have hrun : (loadCells ad vs.length).run P w = .ok vs.toArray w := run_loadCells_list (P := P) w ad vs hv
  rw [hl] at hrun
  unfold execOp
  simp only [ho, hx, Instr.loadAt, Instr.sureAddr, loadVar, Sem.run_bind, Sem.run_pure, Result.andThen_ok, ag.run, if_true, ti.sizeOf_run, hrun]
theorem wp_of_run {K : Act → World → Prop} {Q : Exit → Act → World → Prop} {v : Value} (h : (execOp a.eval o).run P w = .ok (.value v) w) (hk : K (a.put o.dst v) w) : o.wp P a w K Q := by
  unfold Oper.wp; rw [h]; exact hk
theorem equal_of {T : TypeId} {cs ds : Array Value} {b : Bool} (h : (binOp .eql T (.agg cs) (.agg ds)).run P w = .ok (.bool b) w) : (Op.equal T (.agg cs) (.agg ds)).run P w = .ok b w := by
  have h0 : binOp .eql T (.agg cs) (.agg ds) = (do pure (.bool (← Op.equal T (.agg cs) (.agg ds)))) := rfl
  rw [h0, Sem.run_bind] at h
  cases hE : (Op.equal T (.agg cs) (.agg ds)).run P w with
  | ok b' w' =>
    rw [hE, Result.andThen_ok, Sem.run_pure] at h
    simp only [Result.ok.injEq, Value.bool.injEq] at h
    obtain ⟨rfl, rfl⟩ := h
    rfl
  | halt x w' => rw [hE] at h; cases h
theorem neq_of {T : TypeId} {cs ds : Array Value} {b : Bool} (h : (binOp .eql T (.agg cs) (.agg ds)).run P w = .ok (.bool b) w) : (binOp .neq T (.agg cs) (.agg ds)).run P w = .ok (.bool (!b)) w := by
  have h0 : binOp .neq T (.agg cs) (.agg ds) = (do pure (.bool (!(← Op.equal T (.agg cs) (.agg ds))))) := rfl
  rw [h0, Sem.run_bind, equal_of h, Result.andThen_ok, Sem.run_pure]
theorem run_ne {x y : Operand} {T yt : TypeId} {cs ds : Array Value} {b : Bool} (ho : o.op = .binOp .neq T x y yt) (hx : a.eval x = .agg cs) (hy : a.eval y = .agg ds) (hg : P.eqGuardType P.depth T = false) (h : (binOp .eql T (.agg cs) (.agg ds)).run P w = .ok (.bool b) w) :
    (execOp a.eval o).run P w = .ok (.value (.bool (!b))) w := by
  have h' := neq_of h
  unfold execOp
  simp only [ho, hx, hy, eqGuard, Sem.run_bind, Sem.run_pure, run_program, Result.andThen_ok, hg, h']
  simp only [Bool.not_false, if_true, Bool.not_eq_true', Bool.false_eq_true, if_false, ite_self, Sem.run_ite, Sem.run_pure, Result.andThen_ok, h']
  simp [h', hg]
theorem run_eq {x y : Operand} {T yt : TypeId} {cs ds : Array Value} {b : Bool} (ho : o.op = .binOp .eql T x y yt) (hx : a.eval x = .agg cs) (hy : a.eval y = .agg ds) (hg : P.eqGuardType P.depth T = false) (h : (binOp .eql T (.agg cs) (.agg ds)).run P w = .ok (.bool b) w) :
    (execOp a.eval o).run P w = .ok (.value (.bool b)) w := by
  unfold execOp
  simp only [ho, hx, hy, eqGuard, Sem.run_bind, Sem.run_pure, run_program, Result.andThen_ok, hg, h]
  simp only [Bool.not_false, if_true, Bool.not_eq_true', Bool.false_eq_true, if_false, ite_self, Sem.run_ite, Sem.run_pure, Result.andThen_ok, h]
  simp [h, hg]
end
end Go.Sep
