/-
  What a thing that is done once keeps: its row.
-/
import Derived.Test.YtefjgoiaheeikaaOnceW
namespace Go.Proofs.Ytefjgoiaheeikaa
set_option linter.unusedSimpArgs false
set_option linter.unusedVariables false
open Go.RowKit Go.Sep Go.RingM
theorem once_ok {p i : Nat} {M : OM} {e w : World} {L : List HProp} (hi : L[i]? = some (IsOnce p M)) (hw : Holds e w L) : RowsOk M.n [M.row] := by
  have hw := hw.focus1 i hi
  obtain ⟨r, hw⟩ := exL.open_ hw
  have hw := hw.open_ 1 rfl
  (try simp only [List.map_cons, List.map_nil, List.getD_cons_zero, List.getD_cons_succ, List.getD_nil, List.set_cons_zero, List.set_cons_succ, List.cons_append, List.nil_append, Act.eval, Array.getD_eq_getD_getElem?, List.getElem?_toArray, List.getElem?_cons_succ, List.getElem?_cons_zero, Option.getD_some, Value.cells] at hw); (try simp (disch := first | (simp; done) | (simp; omega)) only [Sep.mid_set, Sep.mid_set2, Sep.mid_set0, Sep.mid_splice, Sep.mid_splice0, List.set_cons_zero, List.set_cons_succ] at hw); (try simp only [Sep.splice, List.take_succ_cons, List.take_zero, List.drop_succ_cons, List.drop_zero, List.length_cons, List.length_nil, Nat.reduceAdd, List.cons_append, List.nil_append] at hw)
  exact Holds.rowsOk (i := 2) rfl hw
theorem once_len {p i : Nat} {M : OM} {e w : World} {L : List HProp} (hi : L[i]? = some (IsOnce p M)) (hw : Holds e w L) : M.row.length ≤ 1000 := by
  have h := once_ok hi hw
  exact Nat.le_trans (rowsLen h (by simp)) h.n2
end Go.Proofs.Ytefjgoiaheeikaa
