/-
  A range over a string of ASCII letters, among held blocks.
-/
import Derived.Test.YtmokklkckecmdaaDoorSepRange
import Derived.Test.YtmokklkckecmdaaDoorSepRound
namespace Go.Sep
set_option linter.unusedSimpArgs false
set_option linter.unusedVariables false
/-- How many letters are left, by what the world holds. -/
def strLeft (r : Nat) (w : World) : Nat := match w.heap[r]? with | some (.stringIter s pos) => s.size - pos | _ => 0
section
variable {P : Program} {ops : Array Oper} {Q : Exit → Act → World → Prop} {K : Act → World → Prop} {a : Act} {e w : World} {rest : List Oper} {o : Oper} {L : List HProp}
theorem Holds.strLeft {i r pos : Nat} {s : ByteArray} (hw : Holds e w L) (hi : L[i]? = some (pto r (.stringIter s pos))) : strLeft r w = s.size - pos := by
  unfold Go.Sep.strLeft; rw [hw.obj hi]
theorem wp_rangeStr {t : TypeId} {x : Operand} {s : ByteArray} (ht : P.underlying t = some .string) (ho : o.op = .range t x) (hx : a.eval x = .string s) (hw : Holds e w L)
    (h : ∀ b w', Holds e w' (L ++ [pto b (.stringIter s 0)]) → K (a.put o.dst (.pointer (some ⟨b, 0, none⟩))) w') : o.wp P a w K Q := by
  have hr : (Instr.range t (.string s)).run P w = .ok (.pointer (some ⟨w.heap.size, 0, none⟩)) (w.alloc (.stringIter s 0)) := by
    simp [Instr.range, Sem.run_bind, run_underlying ht, Result.andThen, run_newObj_alloc]
  unfold Oper.wp execOp
  simp only [ho, hx, Sem.run_bind, Sem.run_pure, hr, Result.andThen_ok]
  exact h _ _ (hw.alloc _)
theorem wp_nextStr {x : Operand} {r pos i c : Nat} {s : ByteArray} (ho : o.op = .next x true) (hx : a.eval x = .pointer (some ⟨r, 0, none⟩)) (hw : Holds e w L) (hi : L[i]? = some (pto r (.stringIter s pos)))
    (hlt : pos < s.size) (hd : Utf8.decode s pos = (c, 1)) (h : ∀ w', Holds e w' (L.set i (pto r (.stringIter s (pos + 1)))) → K (a.put o.dst (.tuple #[.bool true, .int .i64 (pos : Int), .int .i32 (c : Int)])) w') : o.wp P a w K Q := by
  have hb := hw.obj hi
  have hlt' := (Array.getElem?_eq_some_iff.1 hb).1
  have hr : ∀ ty, (Instr.next (.pointer (some ⟨r, 0, none⟩)) true ty).run P w = .ok (.tuple #[.bool true, .int .i64 (pos : Int), .int .i32 (c : Int)]) { w with heap := w.heap.setIfInBounds r (.stringIter s (pos + 1)) } := by
    intro ty
    simp [Instr.next, Sem.run_bind, getObj, setObj, Sem.run, hb, Result.andThen, hlt, hd, goInt]
  unfold Oper.wp execOp
  simp only [ho, hx, Sem.run_bind, Sem.run_pure, hr, Result.andThen_ok]
  exact h _ (hw.putObj hi _)
theorem wp_nextEnd {x : Operand} {r pos i : Nat} {s : ByteArray} (ho : o.op = .next x true) (hx : a.eval x = .pointer (some ⟨r, 0, none⟩)) (hw : Holds e w L) (hi : L[i]? = some (pto r (.stringIter s pos)))
    (hlt : ¬ pos < s.size) (h : K (a.put o.dst (.tuple #[.bool false])) w) : o.wp P a w K Q := by
  have hb := hw.obj hi
  have hr : ∀ ty, (Instr.next (.pointer (some ⟨r, 0, none⟩)) true ty).run P w = .ok (.tuple #[.bool false]) w := by
    intro ty
    simp [Instr.next, Sem.run_bind, getObj, setObj, Sem.run, hb, Result.andThen, hlt]
  unfold Oper.wp execOp
  simp only [ho, hx, Sem.run_bind, Sem.run_pure, hr, Result.andThen_ok]
  exact h
theorem run_indexStr {t : TypeId} {x y : Operand} {s : ByteArray} {k : Nat} {b : UInt8} (ht : P.underlying t = some .string) (ho : o.op = .index t x y) (hx : a.eval x = .string s) (hy : a.eval y = .int .i64 (k : Int)) (hk : s[k]? = some b) :
    (execOp a.eval o).run P w = .ok (.value (.int .u8 (b.toNat : Int))) w := by
  have hr : (Instr.index t (.string s) (.int .i64 (k : Int))).run P w = .ok (.int .u8 (b.toNat : Int)) w := by
    simp [Instr.index, asIntOf, Sem.run_bind, run_underlying ht, Result.andThen, hk]
  unfold execOp
  simp only [ho, hx, hy, Sem.run_bind, Sem.run_pure, hr, Result.andThen_ok]
end
end Go.Sep
