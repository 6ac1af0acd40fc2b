/-
  More laws of single operations: a zero value built; loads and comparisons as runs.
-/
import Derived.Test.YtmjpppemdjknoaaSepLaws
import Derived.Laws.MakeOwn
namespace Go.Sep
set_option linter.unusedSimpArgs false
set_option linter.unusedVariables false
open Go.RowKit
section
variable {P : Program} {ops : Array Oper} {Q : Exit → Act → World → Prop} {K : Act → World → Prop} {a : Act} {e w : World} {rest : List Oper} {o : Oper} {L : List HProp}

theorem wp_build0 {T E : TypeId} {m : Nat} {cs0 : Array Value} {z2 : Value} {n k n2 k2 : Nat} [ti : TI P T (.agg cs0) n k] [te : TI P E z2 n2 k2] (ht : P.underlying T = some (.array m E)) (ho : o.op = .build T #[])
    (h : K (a.put o.dst (.agg cs0)) w) : o.wp P a w K Q := by
  unfold Oper.wp execOp
  simp only [ho, Instr.build, Sem.run_bind, ti.zero_run, run_underlying ht, te.sizeOf_run, Result.andThen_ok, Array.map_empty, Instr.fill, Sem.run_pure, Value.cells]
  exact h

theorem run_loadN {T : TypeId} {x : Operand} {z : Value} {n k b off i : Nat} {cs vs : List Value} {t : TypeId} [ti : TI P T z n k] [ag : Agg P T] (ho : o.op = .load T x) (hx : a.eval x = .pointer (some ⟨b, off, none⟩))
    (hw : Holds e w L) (hi : L[i]? = some (pt b cs t)) (hl : vs.length = n) (hv : ∀ j v, vs[j]? = some v → cs[off + j]? = some v) :
    (execOp a.eval o).run P w = .ok (.value (.agg vs.toArray)) w := by
  have hc := fun k => hw.cells hi k
  have hrun : (loadCells ⟨b, off, none⟩ vs.length).run P w = .ok vs.toArray w :=
    run_loadCells_list (P := P) w ⟨b, off, none⟩ vs (fun j v hj => by
      have hadd : (⟨b, off, none⟩ : Addr).add j = ⟨b, off + j, none⟩ := by unfold Addr.add; split <;> simp_all
      rw [hadd, hc]; exact hv j v hj)
  rw [hl] at hrun
  unfold execOp
  simp only [ho, hx, Instr.loadAt, Instr.sureAddr, loadVar, Sem.run_bind, Sem.run_pure, Result.andThen_ok, ag.run, if_true, ti.sizeOf_run, hrun]

/-- 'make([]T, n)' of elements of one cell each. -/
theorem wp_make1 {t E : TypeId} {z : Value} {k n : Nat} {x y : Operand} [st : SlT P t E] [ti : TI P E z 1 k] (hz : z.cells = #[z]) (ho : o.op = .makeSlice t x y) (hx : a.eval x = .int .i64 (n : Int)) (hy : a.eval y = .int .i64 (n : Int))
    (hn : n ≤ 1000000) (hk : k ≤ 1000) (hw : Holds e w L)
    (h : ∀ b w', Holds e w' (L ++ [pt b (List.replicate n z) E]) → K (a.put o.dst (.slice (some ⟨b, 0, none⟩) n n)) w') : o.wp P a w K Q := by
  obtain ⟨i, hi, h1, h2, h3⟩ := ti.info
  have hb : (i.bytes : Int) * (n : Int) ≤ 281474976710656 := by
    rw [h3]
    have : k * n ≤ 1000 * 1000000 := Nat.mul_le_mul hk hn
    have h' : ((k * n : Nat) : Int) ≤ 1000 * 1000000 := by omega
    rw [Int.natCast_mul] at h'
    omega
  have hr := run_make (P := P) w t E i z st.out hi h1 .i64 .i64 n n (by omega) (Int.le_refl _) hb (by omega)
  simp only [Int.toNat_natCast, h2, Nat.mul_one] at hr
  have hm : madeCells z.cells n = (List.replicate n z).toArray := by
    unfold madeCells
    rw [hz]
    apply Array.ext
    · simp
    · intro j h1 h2
      simp [Nat.mod_one]
  rw [hm] at hr
  unfold Oper.wp execOp
  simp only [ho, hx, hy, Sem.run_bind, Sem.run_pure, hr, Result.andThen_ok]
  exact h _ _ (hw.allocCells _ _)
end
end Go.Sep
