/-
  TaskAlone, the plain law: what one act leaves of the other tasks.
-/
import Derived.Test.YtmoikkfhlnogbaaModel
namespace Go.TaskM
set_option linter.unusedSimpArgs false
set_option linter.unusedVariables false
theorem Table.can_get {T : Table} {n : Int} {m : Task → Bool} (h : T.can n m = true) : ∃ t, T.get n = some t ∧ 0 ≤ n ∧ m t = true := by
  unfold Table.can at h
  cases hg : T.get n with
  | none => simp [hg] at h
  | some t =>
    simp only [hg, Bool.and_eq_true] at h
    have : 0 ≤ n := by
      unfold Table.get at hg
      split at hg
      · assumption
      · cases hg
    exact ⟨t, rfl, this, h.2⟩
theorem Table.get_change_ne {T : Table} {n i : Int} {m : Task → Bool} {g : Task → Task} (h : i ≠ n) : (T.change n m g).get i = T.get i := by
  unfold Table.change
  split
  · rename_i hc
    obtain ⟨_, _, hn, _⟩ := Table.can_get hc
    unfold Table.get
    split
    · rw [List.getElem?_set_ne (by omega)]
    · rfl
  · rfl
theorem Table.get_begin {T : Table} {a b i : Int} (hi : i < T.l.length) : (T.begin_ a b).get i = T.get i := by
  unfold Table.begin_
  split
  · rfl
  · unfold Table.get
    split
    · simp only []
      rw [List.getElem?_append_left (by omega)]
    · rfl
theorem Table.getD_some {T : Table} {n : Int} {t : Task} (h : T.get n = some t) : T.getD n = t := by simp [Table.getD, h]
theorem Table.getD_of_get {T U : Table} {i : Int} (h : T.get i = U.get i) : T.getD i = U.getD i := by simp [Table.getD, h]
theorem Table.getD_change_no {T : Table} {n i : Int} {m : Task → Bool} {g : Task → Task} (h : i ≠ n ∨ T.can n m = false) : (T.change n m g).getD i = T.getD i := by
  rcases h with h | h
  · exact Table.getD_of_get (Table.get_change_ne h)
  · rw [Table.change_no h]
theorem put_out' (t : Task) (reg x : Int) (h : regOk reg = false) : t.put reg x = t := by
  unfold Task.put
  have : reg ≠ 0 ∧ reg ≠ 1 ∧ reg ≠ 2 ∧ reg ≠ 3 ∧ reg ≠ 4 ∧ reg ≠ 5 := by
    simp only [regOk, Bool.and_eq_false_iff, decide_eq_false_iff_not] at h
    omega
  simp [this]

/-- Who is not the one of the act, or where the act is not done: as it was. -/
theorem act_same (T : Table) (d : Deed) (i : Int) (hi : i < T.l.length) (h : d.do_ = 0 ∨ i ≠ d.t ∨ actB T d = false) : (actT T d).getD i = T.getD i := by
  unfold actT
  split
  · exact Table.getD_of_get (Table.get_begin hi)
  · rename_i h0
    replace h : i ≠ d.t ∨ actB T d = false := h.resolve_left h0
    simp only [actB, h0, if_false] at h
    split
    · rename_i h1; simp only [h1, if_true] at h; exact Table.getD_change_no h
    · rename_i h1; simp only [h1, if_false] at h
      split
      · rename_i h2; simp only [h2, if_true, Bool.and_eq_false_iff] at h
        rcases h with h | h | h
        · exact Table.getD_change_no (.inl h)
        · exact Table.getD_change_no (.inr h)
        · by_cases hn : i = d.t
          · subst hn
            cases hc : T.can d.t live with
            | false => exact Table.getD_change_no (.inr hc)
            | true => rw [Table.getD_change hc]; exact put_out' _ _ _ h
          · exact Table.getD_change_no (.inl hn)
      · rename_i h2; simp only [h2, if_false] at h
        split
        · rename_i h3; simp only [h3, if_true, Bool.and_eq_false_iff] at h
          split
          · rename_i hp
            exact Table.getD_change_no (h.imp id (fun h => h.resolve_left (by simp [hp])))
          · rfl
        · rename_i h3; simp only [h3, if_false] at h
          split
          · rename_i h4; simp only [h4, if_true, Bool.and_eq_false_iff] at h
            split
            · rename_i hp
              exact Table.getD_change_no (h.imp id (fun h => h.resolve_left (by simp [hp])))
            · rfl
          · rename_i h4; simp only [h4, if_false] at h
            split
            · rename_i h5; simp only [h5, if_true] at h; exact Table.getD_change_no h
            · rename_i h5; simp only [h5, if_false] at h
              split
              · rename_i h6; simp only [h6, if_true] at h; exact Table.getD_change_no h
              · rfl

theorem Table.can_ended {T : Table} {n : Int} {m : Task → Bool} (h : (T.getD n).state = 3) (hm : ∀ t : Task, t.state = 3 → m t = false) : T.can n m = false := by
  cases hc : T.can n m with
  | false => rfl
  | true =>
    obtain ⟨t, ht, _, hmt⟩ := Table.can_get hc
    rw [Table.getD_some ht] at h
    rw [hm t h] at hmt
    cases hmt
/-- Who is ended stays so. -/
theorem act_ended (T : Table) (d : Deed) (i : Int) (hi : i < T.l.length) (h : (T.getD i).state = 3) : (actT T d).getD i = T.getD i := by
  have key : ∀ (n : Int) (m : Task → Bool) (g : Task → Task), (∀ t : Task, t.state = 3 → m t = false) → (T.change n m g).getD i = T.getD i := by
    intro n m g hm
    by_cases hn : i = n
    · subst hn; exact Table.getD_change_no (.inr (Table.can_ended h hm))
    · exact Table.getD_change_no (.inl hn)
  have hr : ∀ t : Task, t.state = 3 → ready t = false := fun t ht => by simp [ready, ht]
  have hp : ∀ t : Task, t.state = 3 → parked t = false := fun t ht => by simp [parked, ht]
  have hl : ∀ t : Task, t.state = 3 → live t = false := fun t ht => by simp [live, ht]
  unfold actT
  repeat' split
  all_goals first | rfl | exact Table.getD_of_get (Table.get_begin hi) | exact key _ _ _ hr | exact key _ _ _ hp | exact key _ _ _ hl

theorem act_len (T : Table) (d : Deed) : ((actT T d).l.length = T.l.length + 1 ∧ d.do_ = 0 ∧ actE T d = 0) ∨ ((actT T d).l.length = T.l.length ∧ ¬ (d.do_ = 0 ∧ actE T d = 0)) := by
  by_cases h0 : d.do_ = 0
  · cases hf : T.full with
    | true => exact .inr ⟨by simp [actT, h0, Table.begin_, hf], by simp [actE, h0, Table.beginE, hf]⟩
    | false => exact .inl ⟨by simp [actT, h0, Table.begin_, hf], h0, by simp [actE, h0, Table.beginE, hf]⟩
  · refine .inr ⟨?_, fun h => h0 h.1⟩
    unfold actT
    simp only [h0, if_false]
    repeat' split
    all_goals first | rfl | exact Table.change_length _ _ _ _
theorem get_isSome (T : Table) (i : Nat) (h : i < T.l.length) : T.get i = some (T.getD i) := by
  have : T.get i = T.l[i]? := by unfold Table.get; simp
  rw [Table.getD, this, List.getElem?_eq_getElem h]; rfl
end Go.TaskM
