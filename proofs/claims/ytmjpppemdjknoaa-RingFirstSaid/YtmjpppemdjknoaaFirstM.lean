/-
  RingFirst, the plain law: an arena of one row.
-/
import Derived.Test.YtmjpppemdjknoaaRingOps
namespace Go.Proofs.Ytmjpppemdjknoaa
set_option linter.unusedSimpArgs false
set_option linter.unusedVariables false
open Go.RowKit Go.Sep Go.RingM

def one (c : List Nat) : Ring := ⟨20, [c]⟩
theorem one_row (c : List Nat) : (one c).rows[0]? = some c := rfl
theorem one_is (c : List Nat) : (one c).isRow 0 = true := rfl
theorem one_set (c d : List Nat) : (one c).setRow 0 d = one d := rfl
theorem one_node (c : List Nat) (n : Int) : (one c).isNode n = (decide (0 ≤ n) && decide (n < 20)) := rfl
theorem one_in {c : List Nat} (hW : (one c).Wf) (n : Int) : (one c).in_ n = if 0 ≤ n ∧ n < 20 ∧ n.toNat ∈ c then 0 else -1 := by
  unfold Ring.in_
  by_cases h : (one c).isNode n = true
  · rw [if_pos h]
    rw [one_node] at h; simp only [Bool.and_eq_true, decide_eq_true_eq] at h
    by_cases hm : n.toNat ∈ c
    · rw [Ring.inOf_some hW (one_row c) hm, if_pos ⟨h.1, h.2, hm⟩]; rfl
    · rw [if_neg (fun hh => hm hh.2.2)]
      refine Ring.inOf_none (fun r l hr hx => ?_)
      have : r = 0 := by
        have := (List.getElem?_eq_some_iff.1 hr).1
        simpa [one] using this
      subst this
      rw [one_row] at hr; cases hr
      exact hm hx
  · rw [if_neg h, if_neg]
    rintro ⟨h1, h2, _⟩
    apply h
    rw [one_node]; simp [h1, h2]
/-- Who comes: new, and a node. -/
def comes (c : List Nat) (n : Int) : Bool := decide (0 ≤ n ∧ n < 20 ∧ n.toNat ∉ c)
theorem one_may {c : List Nat} (hW : (one c).Wf) (n : Int) : decide ((one c).mayE 0 n = 0) = comes c n := by
  unfold Ring.mayE comes
  rw [one_is, Bool.true_and, one_in hW]
  by_cases h : 0 ≤ n ∧ n < 20
  · have hn : (one c).isNode n = true := by rw [one_node]; simp [h.1, h.2]
    rw [hn]
    by_cases hm : n.toNat ∈ c
    · simp [h.1, h.2, hm]
    · simp [h.1, h.2, hm]
  · have hn : (one c).isNode n = false := by
      rw [one_node]
      simp only [Bool.and_eq_false_iff, decide_eq_false_iff_not]
      by_cases h1 : 0 ≤ n
      · exact .inr (fun h2 => h ⟨h1, h2⟩)
      · exact .inl h1
    rw [hn]
    have : ¬ (0 ≤ n ∧ n < 20 ∧ n.toNat ∉ c) := fun hh => h ⟨hh.1, hh.2.1⟩
    simp [this]
theorem one_add {c : List Nat} (hW : (one c).Wf) (n : Int) : (one c).add false 0 n = one (if comes c n then c ++ [n.toNat] else c) := by
  have h := one_may hW n
  unfold Ring.add
  by_cases hm : (one c).mayE 0 n = 0
  · rw [if_pos hm]
    rw [← h]
    simp only [hm, decide_true, if_true]
    rfl
  · rw [if_neg hm, ← h]
    simp [hm]
theorem one_drop {l1 l2 : List Nat} {n : Nat} (hW : (one (l1 ++ n :: l2)).Wf) : (one (l1 ++ n :: l2)).in_ n = 0 ∧ (one (l1 ++ n :: l2)).drop n = one (l1 ++ l2) :=
  Ring.drop_eq (r := 0) hW (one_row _)
theorem one_gone {l1 l2 : List Nat} {n : Nat} (hW : (one (l1 ++ n :: l2)).Wf) (hW2 : (one (l1 ++ l2)).Wf) : (one (l1 ++ l2)).in_ n = -1 := by
  rw [one_in hW2, if_neg]
  rintro ⟨_, _, hm⟩
  have hnd := (hW.one 0 _ (one_row _)).1
  rw [List.nodup_append] at hnd
  obtain ⟨_, h2, h3⟩ := hnd
  rcases List.mem_append.1 hm with hm | hm
  · exact h3 _ hm n (by simp) rfl
  · exact (List.nodup_cons.1 h2).1 hm
theorem one_first (c : List Nat) : (one c).first 0 = match c with | [] => -1 | y :: _ => (y : Int) := by
  have h : (one c).row 0 = c := Ring.row_of (r := 0) (one_row c)
  unfold Ring.first; rw [h]; cases c <;> rfl
end Go.Proofs.Ytmjpppemdjknoaa
