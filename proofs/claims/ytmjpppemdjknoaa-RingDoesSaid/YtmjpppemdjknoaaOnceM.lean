/-
  All rows of an arena, one behind the other.
-/
import Derived.Test.YtmjpppemdjknoaaRingDo
import Derived.Test.YtmjpppemdjknoaaMapI
namespace Go.Proofs.Ytmjpppemdjknoaa
set_option linter.unusedSimpArgs false
set_option linter.unusedVariables false
open Go.RowKit Go.Sep Go.RingM

def allTo (R : Ring) (i : Nat) : List Int := ints (R.rows.take i).flatten
theorem allTo_zero (R : Ring) : allTo R 0 = [] := rfl
theorem allTo_succ {R : Ring} {i : Nat} {l : List Nat} (h : R.rows[i]? = some l) : allTo R (i + 1) = allTo R i ++ ints l := by
  unfold allTo
  rw [List.take_add_one, h]
  simp [ints]
theorem allTo_split {R : Ring} {i : Nat} {l : List Nat} (h : R.rows[i]? = some l) : ∃ r, ints R.rows.flatten = allTo R i ++ ints l ++ r := by
  obtain ⟨hi, hl⟩ := List.getElem?_eq_some_iff.1 h
  refine ⟨ints (R.rows.drop (i + 1)).flatten, ?_⟩
  have : R.rows = R.rows.take i ++ (l :: R.rows.drop (i + 1)) := by
    rw [← hl, ← List.drop_eq_getElem_cons hi, List.take_append_drop]
  conv => lhs; rw [this]
  unfold allTo ints
  simp
theorem allTo_end {R : Ring} {i : Nat} (h : R.rows.length ≤ i) : allTo R i = ints R.rows.flatten := by
  unfold allTo; rw [List.take_of_length_le h]
theorem ints_nodup {l : List Nat} (h : l.Nodup) : (ints l).Nodup := by
  unfold ints List.Nodup
  rw [List.pairwise_map]
  exact h.imp fun hab hh => hab (by omega)
theorem flat_nodup {R : Ring} (hW : R.Wf) : (ints R.rows.flatten).Nodup := by
  apply ints_nodup
  unfold List.Nodup
  rw [List.pairwise_flatten]
  constructor
  · intro l hl
    obtain ⟨r, hr⟩ := List.getElem?_of_mem hl
    exact (hW.one r l hr).1
  · rw [List.pairwise_iff_getElem]
    intro i j hi hj hij x hx y hy e
    subst e
    have := hW.apart i j _ _ x (List.getElem?_eq_getElem hi) (List.getElem?_eq_getElem hj) hx hy
    omega
theorem in_row {R : Ring} (hW : R.Wf) {i x : Nat} {l : List Nat} (h : R.rows[i]? = some l) (hx : x ∈ l) : R.in_ (x : Int) = (i : Int) ∧ x < R.n := by
  have hn := (hW.one i l h).2 x hx
  refine ⟨?_, hn⟩
  unfold Ring.in_ Ring.isNode
  rw [if_pos (by simp; omega)]
  simpa using Ring.inOf_some hW h hx
theorem in_all {R : Ring} (hW : R.Wf) (x : Nat) : ((x : Int) ∈ ints R.rows.flatten ∧ ∃ i : Nat, R.in_ (x : Int) = (i : Int)) ∨ ((x : Int) ∉ ints R.rows.flatten ∧ R.in_ (x : Int) = -1) := by
  by_cases hm : (x : Int) ∈ ints R.rows.flatten
  · left
    refine ⟨hm, ?_⟩
    unfold ints at hm
    obtain ⟨y, hy, he⟩ := List.mem_map.1 hm
    have : y = x := by omega
    subst this
    obtain ⟨l, hl, hyl⟩ := List.mem_flatten.1 hy
    obtain ⟨r, hr⟩ := List.getElem?_of_mem hl
    exact ⟨r, (in_row hW hr hyl).1⟩
  · right
    refine ⟨hm, ?_⟩
    rcases Ring.in_cases hW (x : Int) with h | ⟨r, x', l1, l2, hx, hlt, _, _, hr⟩
    · exact h
    · exfalso
      apply hm
      have : x' = x := by omega
      subst this
      unfold ints
      exact List.mem_map.2 ⟨x', List.mem_flatten.2 ⟨_, List.mem_of_getElem? hr, by simp⟩, rfl⟩
end Go.Proofs.Ytmjpppemdjknoaa
