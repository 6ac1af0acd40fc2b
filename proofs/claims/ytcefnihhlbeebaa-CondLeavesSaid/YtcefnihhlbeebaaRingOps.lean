/-
  What is done with an arena of rows, as plain data: what a node more, and a node less, leave.
-/
import Derived.Test.YtcefnihhlbeebaaRingEnc
namespace Go.Proofs.Ytcefnihhlbeebaa
set_option linter.unusedSimpArgs false
set_option linter.unusedVariables false
open Go.RowKit Go.Sep Go.RingM

theorem may_data {R : Ring} (hW : R.Wf) {r x : Int} (hm : R.mayE r x = 0) :
    ∃ (r' x' : Nat) (l : List Nat), r = (r' : Int) ∧ x = (x' : Int) ∧ x' < R.n ∧ r' < R.rows.length ∧ R.rows[r']? = some l ∧ R.row r = l ∧ R.inOf x' = -1 ∧ (∀ (s : Nat) (m : List Nat), R.rows[s]? = some m → x' ∉ m) := by
  unfold Ring.mayE at hm
  split at hm
  · rename_i h
    split at hm
    · rename_i h2
      simp only [Ring.isRow, Ring.isNode, Bool.and_eq_true, decide_eq_true_eq] at h
      obtain ⟨r', rfl⟩ := Int.eq_ofNat_of_zero_le h.1.1
      obtain ⟨x', rfl⟩ := Int.eq_ofNat_of_zero_le h.2.1
      have hr : r' < R.rows.length := by omega
      have hx : x' < R.n := by omega
      have hi : R.inOf x' = -1 := by simpa [Ring.in_, Ring.isNode, hx] using h2
      refine ⟨r', x', R.rows[r'], rfl, rfl, hx, hr, List.getElem?_eq_getElem hr, Ring.row_of (List.getElem?_eq_getElem hr), hi, ?_⟩
      intro s m hs hm
      rw [Ring.inOf_some hW hs hm] at hi
      omega
    · exact absurd hm (by decide)
  · exact absurd hm (by decide)

theorem RingOk.insert {R : Ring} {nx pv : List Nat} (h : RingOk R nx pv) {r x : Nat} {l1 l2 : List Nat} (hr : R.rows[r]? = some (l1 ++ l2)) (hx : x < R.n) (hin : ∀ (s : Nat) (m : List Nat), R.rows[s]? = some m → x ∉ m) :
    RingOk (R.setRow r (l1 ++ x :: l2)) ((nx.set (lst (R.n + r) l1) x).set x (fst l2 (R.n + r))) ((pv.set x (lst (R.n + r) l1)).set (fst l2 (R.n + r)) x) ∧
    (inns R).set x (.int .i64 (r : Int)) = inns (R.setRow r (l1 ++ x :: l2)) ∧ (longs R).set r (.int .i64 ((l1 ++ l2).length + 1 : Nat)) = longs (R.setRow r (l1 ++ x :: l2)) := by
  obtain ⟨h1, h2⟩ := h.laid.insert h.wf hr hx hin
  refine ⟨⟨h1, h2, h.n1, h.n2, ?_, ?_⟩, ?_, ?_⟩
  · have := h.r1; simpa [Ring.setRow] using this
  · have := h.r2; simpa [Ring.setRow] using this
  · exact inns_set rfl (inOf_insert h.wf hr h1)
  · have := longs_set R r (l1 ++ x :: l2)
    rw [← this]
    congr 3
    simp
    omega
theorem RingOk.remove {R : Ring} {nx pv : List Nat} (h : RingOk R nx pv) {r x : Nat} {l1 l2 : List Nat} (hr : R.rows[r]? = some (l1 ++ x :: l2)) :
    RingOk (R.setRow r (l1 ++ l2)) ((nx.set (lst (R.n + r) l1) (fst l2 (R.n + r))).set x x) ((pv.set (fst l2 (R.n + r)) (lst (R.n + r) l1)).set x x) ∧ nx.getD x 0 = fst l2 (R.n + r) ∧ pv.getD x 0 = lst (R.n + r) l1 ∧
    (inns R).set x (.int .i64 (-1)) = inns (R.setRow r (l1 ++ l2)) ∧ (longs R).set r (.int .i64 ((l1 ++ l2).length : Nat)) = longs (R.setRow r (l1 ++ l2)) := by
  obtain ⟨h1, e1, e2, h2⟩ := h.laid.remove h.wf hr
  refine ⟨⟨h1, h2, h.n1, h.n2, ?_, ?_⟩, e1, e2, ?_, longs_set R r _⟩
  · have := h.r1; simpa [Ring.setRow] using this
  · have := h.r2; simpa [Ring.setRow] using this
  · exact inns_set rfl (inOf_remove h.wf hr h1)

/-- Where an arena's links lead at a row's ends. -/
theorem RingOk.ends {R : Ring} {nx pv : List Nat} (h : RingOk R nx pv) {r : Nat} {l1 l2 : List Nat} (hr : R.rows[r]? = some (l1 ++ l2)) :
    nx.getD (lst (R.n + r) l1) 0 = fst l2 (R.n + r) ∧ pv.getD (fst l2 (R.n + r)) 0 = lst (R.n + r) l1 ∧ lst (R.n + r) l1 < R.n + R.rows.length ∧ fst l2 (R.n + r) < R.n + R.rows.length := by
  have hm := (h.laid.seg r _ hr).mid
  have hlt := (h.wf.one r _ hr).2
  have hrl : r < R.rows.length := (List.getElem?_eq_some_iff.1 hr).1
  refine ⟨hm.1, hm.2, ?_, ?_⟩
  · have := lst_mem (R.n + r) l1
    rcases List.mem_cons.1 this with e | e
    · omega
    · have := hlt _ (List.mem_append_left _ e); omega
  · have := fst_mem l2 (R.n + r)
    rcases List.mem_append.1 this with e | e
    · have := hlt _ (List.mem_append_right _ e); omega
    · have : fst l2 (R.n + r) = R.n + r := by simpa using e
      omega
theorem Ring.add_eq {R : Ring} {r x : Nat} {l : List Nat} (hm : R.mayE r x = 0) (hr : R.row r = l) (ahead : Bool) : R.add ahead r x = R.setRow r (if ahead then x :: l else l ++ [x]) := by
  simp [Ring.add, hm, hr]
theorem Ring.drop_eq {R : Ring} (hW : R.Wf) {r x : Nat} {l1 l2 : List Nat} (hr : R.rows[r]? = some (l1 ++ x :: l2)) : R.in_ x = (r : Int) ∧ R.drop x = R.setRow r (l1 ++ l2) := by
  have hx : x < R.n := (hW.one r _ hr).2 x (by simp)
  have hi : R.in_ x = (r : Int) := by
    have := Ring.inOf_some hW hr (show x ∈ l1 ++ x :: l2 by simp)
    simp [Ring.in_, Ring.isNode, hx, this]
  refine ⟨hi, ?_⟩
  unfold Ring.drop
  rw [hi, if_neg (by omega), Ring.row_of hr]
  congr 1
  exact filter_out (hW.one r _ hr).1
theorem Ring.drop_no {R : Ring} {x : Int} (h : R.in_ x = -1) : R.drop x = R := by unfold Ring.drop; rw [if_pos h]
/-- A node stands in a row, or in none. -/
theorem Ring.in_cases {R : Ring} (hW : R.Wf) (x : Int) : R.in_ x = -1 ∨ ∃ (r x' : Nat) (l1 l2 : List Nat), x = (x' : Int) ∧ x' < R.n ∧ R.in_ x = (r : Int) ∧ r < R.rows.length ∧ R.rows[r]? = some (l1 ++ x' :: l2) := by
  unfold Ring.in_
  by_cases h : R.isNode x = true
  · rw [if_pos h]
    simp only [Ring.isNode, Bool.and_eq_true, decide_eq_true_eq] at h
    obtain ⟨x', rfl⟩ := Int.eq_ofNat_of_zero_le h.1
    rcases Ring.inOf_cases hW x' with ⟨h1, _⟩ | ⟨r, l, h1, hr, hx, hlt⟩
    · exact .inl h1
    · obtain ⟨l1, l2, rfl⟩ := mem_split hx
      exact .inr ⟨r, x', l1, l2, rfl, by omega, h1, hlt, hr⟩
  · rw [if_neg h]; exact .inl rfl
end Go.Proofs.Ytcefnihhlbeebaa
