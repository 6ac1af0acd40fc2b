/-
  The walks of In and Without, over slices of whole numbers.
-/
import Derived.Test.YtcefnihhlbeebaaInts
import Derived.Test.YtcefnihhlbeebaaRowsM
namespace Go.Proofs.Ytcefnihhlbeebaa
set_option linter.unusedSimpArgs false
set_option linter.unusedVariables false
open Go.RowKit Go.Sep

theorem without_snoc (l : List Int) (x y : Int) : without (l ++ [y]) x = without l x ++ (if y = x then [] else [y]) := by
  unfold without
  by_cases h : y = x <;> simp [List.filter_append, h]
theorem without_len (l : List Int) (x : Int) : (without l x).length ≤ l.length := List.length_filter_le _ _
theorem take_snoc {l : List Int} {k : Nat} {x : Int} (h : l[k]? = some x) : l.take (k + 1) = l.take k ++ [x] := by
  rw [List.take_add_one, h]; rfl

theorem sl_ints {v : Value} {l : List Int} {n : Nat} (h : Hid (l.length = n)) : Sl 3 1 v n (encI l) = IsInts v l := by unfold IsInts; rw [h.out]
/-- An element of a slice of whole numbers that is held. -/
theorem int_at {e w : World} {L : List HProp} {i n k ca : Nat} {a : Option Addr} {l : List Int} {x : Int} (hw : Holds e w L) (hi : L[i]? = some (Sl 3 1 (.slice a n ca) n (encI l))) (hx : l[k]? = some x) :
    ∃ b off, a = some ⟨b, off, none⟩ ∧ w.cell? ⟨b, off + k, none⟩ = some (.int .i64 x) := by
  have hk : k < l.length := (List.getElem?_eq_some_iff.1 hx).1
  have hln : (encI l).length = n * 1 := hw.fact hi (fun _ h => h.1)
  rw [encI_length] at hln
  rcases hw.openSl hi with ⟨_, h2, _⟩ | ⟨b, cap, pre, post, hv, _, _, _, hw'⟩
  · omega
  · cases hv
    refine ⟨b, pre.length, rfl, ?_⟩
    have hil : i < L.length := (List.getElem?_eq_some_iff.1 hi).1
    rw [hw'.cells (List.getElem?_set_self hil), Sep.mid_get _ _ _ _ (by rw [encI_length]; exact hk)]
    exact encI_get hx
theorem without_head {m : Int} {l : List Int} (h : (m :: l).Nodup) : without (m :: l) m = l := by
  have : without l m = l := without_none (List.nodup_cons.1 h).1
  unfold without at this ⊢
  simp [this]

end Go.Proofs.Ytcefnihhlbeebaa
