/-
  A row of parts, of any length, that stands as one part: one of them is taken out, and put back.
-/
import Derived.Test.YtcefnihhlbeebaaSepMore
namespace Go.Sep
set_option linter.unusedSimpArgs false
set_option linter.unusedVariables false

theorem sepL.merge {L : List HProp} {h : Heap} {P B : HProp} {j : Nat} (hj : L[j]? = some P) (H : sepL (L ++ [B]) h) : sepL (L.set j (sepL [P, B])) h := by
  classical
  obtain ⟨f, h1, h2, h3⟩ := H
  have hjl : j < L.length := (List.getElem?_eq_some_iff.1 hj).1
  refine ⟨fun k => if k = j then (fun b => if f j b ≠ none ∨ f L.length b ≠ none then h b else none) else if k < L.length then f k else fun _ => none, ?_, ?_, ?_⟩
  · intro k Q hk
    rw [List.getElem?_set] at hk
    split at hk
    · rename_i e; subst e
      cases hk
      simp only [if_true]
      refine ⟨fun q => if q = 0 then f j else if q = 1 then f L.length else fun _ => none, ?_, ?_, ?_⟩
      · intro q R hq
        match q, hq with
        | 0, hq => simp only [List.getElem?_cons_zero, Option.some.injEq] at hq; subst hq; exact h1 j _ (by rw [List.getElem?_append_left hjl]; exact hj)
        | 1, hq => simp only [List.getElem?_cons_succ, List.getElem?_cons_zero, Option.some.injEq] at hq; subst hq; exact h1 L.length _ (by simp)
        | q + 2, hq => simp at hq
      · intro q r b hqr hb
        dsimp only at hb ⊢
        by_cases hq0 : q = 0
        · simp only [hq0, if_true] at hb
          have hr0 : r ≠ 0 := by omega
          simp only [hr0, if_false]
          by_cases hr1 : r = 1
          · simp only [hr1, if_true]; exact h2 j _ b (by omega) hb
          · simp [hr1]
        · simp only [hq0, if_false] at hb
          by_cases hq1 : q = 1
          · simp only [hq1, if_true] at hb
            by_cases hr0 : r = 0
            · simp only [hr0, if_true]; exact h2 _ j b (by omega) hb
            · have hr1 : r ≠ 1 := by omega
              simp [hr0, hr1]
          · simp [hq1] at hb
      · intro q b o hb
        dsimp only at hb ⊢
        by_cases hq0 : q = 0
        · simp only [hq0, if_true] at hb
          rw [if_pos (.inl (by rw [hb]; simp))]; exact h3 _ _ _ hb
        · simp only [hq0, if_false] at hb
          by_cases hq1 : q = 1
          · simp only [hq1, if_true] at hb
            rw [if_pos (.inr (by rw [hb]; simp))]; exact h3 _ _ _ hb
          · simp [hq1] at hb
    · rename_i ne
      have hkl := (List.getElem?_eq_some_iff.1 hk).1
      simp only [Ne.symm ne, if_false, hkl, if_true]
      exact h1 k Q (by rw [List.getElem?_append_left hkl]; exact hk)
  · intro p q b hpq hb
    dsimp only at hb ⊢
    by_cases hp : p = j
    · have hq : q ≠ j := by omega
      simp only [hp, if_true] at hb
      simp only [hq, if_false]
      by_cases hql : q < L.length
      · simp only [hql, if_true]
        split at hb
        · rename_i hx
          rcases hx with hx | hx
          · exact h2 j q b (Ne.symm hq) hx
          · exact h2 _ q b (by omega) hx
        · exact (hb rfl).elim
      · simp [hql]
    · simp only [hp, if_false] at hb
      by_cases hpl : p < L.length
      · simp only [hpl, if_true] at hb
        by_cases hq : q = j
        · simp only [hq, if_true]
          rw [if_neg]
          rintro (hx | hx)
          · exact hb (h2 j p b (Ne.symm hp) hx)
          · exact hb (h2 _ p b (by omega) hx)
        · simp only [hq, if_false]
          by_cases hql : q < L.length
          · simp only [hql, if_true]; exact h2 p q b hpq hb
          · simp [hql]
      · simp [hpl] at hb
  · intro p b o hb
    dsimp only at hb
    by_cases hp : p = j
    · simp only [hp, if_true] at hb
      split at hb
      · exact hb
      · cases hb
    · simp only [hp, if_false] at hb
      by_cases hpl : p < L.length
      · simp only [hpl, if_true] at hb; exact h3 _ _ _ hb
      · simp [hpl] at hb

section
variable {e w : World} {L R N : List HProp}
theorem Holds.merge {P B : HProp} {j : Nat} (hj : L[j]? = some P) (H : Holds e w (L ++ [B])) : Holds e w (L.set j (sepL [P, B])) := ⟨H.1, H.2.merge hj⟩
/-- One of the row at place j comes to the end of the list. -/
theorem Holds.pick {A : HProp} (j i : Nat) (hj : L[j]? = some (sepL R)) (hi : R[i]? = some A) (H : Holds e w L) : Holds e w (L.set j (sepL (R.set i emp)) ++ [A]) := by
  have hjl : j < L.length := (List.getElem?_eq_some_iff.1 hj).1
  have h1 := H.imp (i := j) (sepL [sepL (R.set i emp), A]) hj fun h hp => sepL.focus hi hp
  have h2 := h1.open_ j (by rw [List.getElem?_set_self hjl])
  rwa [List.set_set] at h2
/-- And back: the last part of the list goes into the row. -/
theorem Holds.unpick {B : HProp} (j i : Nat) (hj : L[j]? = some (sepL (R.set i emp))) (hi : i < R.length) (H : Holds e w (L ++ [B])) : Holds e w (L.set j (sepL (R.set i B))) := by
  have hjl : j < L.length := (List.getElem?_eq_some_iff.1 hj).1
  have h1 := H.merge hj
  have h2 := h1.imp (i := j) (sepL (R.set i B)) (List.getElem?_set_self hjl) fun h hp => by
    have := sepL.unfocus (N := []) hi hp
    rwa [List.append_nil] at this
  rwa [List.set_set] at h2
/-- The row grows by what stands at the end of the list. -/
theorem Holds.growRow {B : HProp} (j : Nat) (hj : L[j]? = some (sepL R)) (H : Holds e w (L ++ [B])) : Holds e w (L.set j (sepL (R ++ [B]))) := by
  have hjl : j < L.length := (List.getElem?_eq_some_iff.1 hj).1
  have h1 := H.merge hj
  have h2 := h1.imp (i := j) (sepL (R ++ [B])) (List.getElem?_set_self hjl) fun h hp => sepL.ungroup R [B] hp
  rwa [List.set_set] at h2
end
end Go.Sep
