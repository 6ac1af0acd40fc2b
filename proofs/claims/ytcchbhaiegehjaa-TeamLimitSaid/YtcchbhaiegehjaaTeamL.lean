/-
  TeamLimit: what an act may do, and what it keeps.
-/
import Derived.Test.YtcchbhaiegehjaaTeamAw
namespace Go.Proofs.Ytcchbhaiegehjaa
set_option linter.unusedSimpArgs false
set_option linter.unusedVariables false
open Go.RowKit Go.Sep Go.RingM

/-- No limit and nobody waits to begin; or a limit, and no more at work than it says. -/
def TM.inv (M : TM) : Prop := (M.lim = -1 ∧ M.c = []) ∨ (0 ≤ M.lim ∧ M.act ≤ M.lim)
theorem may_no {M : TM} (hi : M.inv) (h : M.may = false) : 0 ≤ M.lim := by
  rcases hi with ⟨h1, _⟩ | ⟨h1, _⟩
  · simp [TM.may, h1] at h
  · exact h1
theorem may_yes {M : TM} (h : M.may = true) : M.lim = -1 ∨ M.act < M.lim := by
  simpa [TM.may] using h
theorem inv_go {M : TM} (hi : M.inv) (h : M.may = true) : TM.inv ⟨M.n, M.lim, M.act + 1, M.fst, M.c, M.w⟩ := by
  rcases hi with ⟨h1, h2⟩ | ⟨h1, h2⟩
  · exact .inl ⟨h1, h2⟩
  · rcases may_yes h with h3 | h3
    · omega
    · exact .inr ⟨h1, by show M.act + 1 ≤ M.lim; omega⟩

theorem limit_cases (M : TM) (d : Deed) (ha : 0 ≤ M.act) (hi : M.inv) (hp : ∀ x ∈ M.c, 0 ≤ x) : TM.inv (M.deed d).2.2.2 ∧ (
    (∃ er, ¬ er = 0 ∧ M.deed d = (⟨0, [], false⟩, false, er, M)) ∨
    ((d.f0 = 0 ∨ d.f0 = 1) ∧ M.deed d = (⟨0, [], false⟩, true, 0, ⟨M.n, M.lim, M.act + 1, M.fst, M.c, M.w⟩)) ∨
    (d.f0 = 0 ∧ M.deed d = (⟨0, [], false⟩, false, 0, ⟨M.n, M.lim, M.act, M.fst, M.c ++ [d.f1], M.w⟩)) ∨
    (d.f0 = 1 ∧ M.deed d = (⟨0, [], false⟩, false, 0, M)) ∨
    (d.f0 = 2 ∧ 0 < M.act ∧ ∃ y l, M.c = y :: l ∧ 0 ≤ y ∧ M.deed d = (⟨y, [], M.isFirst d.f2⟩, false, 0, ⟨M.n, M.lim, M.act, if M.isFirst d.f2 then d.f2 else M.fst, l, M.w⟩)) ∨
    (d.f0 = 2 ∧ M.act = 1 ∧ M.c = [] ∧ M.deed d = (⟨-1, M.w, M.isFirst d.f2⟩, false, 0, ⟨M.n, M.lim, 0, if M.isFirst d.f2 then d.f2 else M.fst, [], []⟩)) ∨
    (d.f0 = 2 ∧ 1 < M.act ∧ M.c = [] ∧ M.deed d = (⟨-1, [], M.isFirst d.f2⟩, false, 0, ⟨M.n, M.lim, M.act - 1, if M.isFirst d.f2 then d.f2 else M.fst, [], M.w⟩)) ∨
    (d.f0 = 3 ∧ M.act = 0 ∧ M.deed d = (⟨0, [], false⟩, true, 0, M)) ∨
    (d.f0 = 3 ∧ 0 < M.act ∧ M.deed d = (⟨0, [], false⟩, false, 0, ⟨M.n, M.lim, M.act, M.fst, M.c, M.w ++ [d.f1]⟩)) ∨
    (d.f0 = 4 ∧ M.deed d = (⟨0, [], false⟩, true, 0, ⟨M.n, M.lim, M.act, M.fst, without M.c d.f1, without M.w d.f1⟩)) ∨
    (d.f0 = 4 ∧ M.deed d = (⟨0, [], false⟩, false, 0, M)) ∨
    (d.f0 = 5 ∧ ∃ l, M.deed d = (⟨0, [], false⟩, false, 0, ⟨M.n, l, M.act, M.fst, M.c, M.w⟩)) ∨
    (¬ d.f0 = 0 ∧ ¬ d.f0 = 1 ∧ ¬ d.f0 = 2 ∧ ¬ d.f0 = 3 ∧ ¬ d.f0 = 4 ∧ ¬ d.f0 = 5 ∧ M.deed d = (⟨0, [], false⟩, false, 0, M))) := by
  by_cases h0 : d.f0 = 0
  · have hb : M.deed d = (⟨0, [], false⟩, (M.go d.f1).1, (M.go d.f1).2.1, (M.go d.f1).2.2) := by unfold TM.deed; rw [if_pos h0]
    rw [hb]; unfold TM.go
    by_cases ha : M.askE d.f1 = 0
    · rw [if_neg (fun h => h ha)]
      cases hm : M.may with
      | true => rw [if_pos rfl]; exact ⟨inv_go hi hm, .inr (.inl ⟨.inl h0, rfl⟩)⟩
      | false =>
        rw [if_neg (by decide)]
        have hl := may_no hi hm
        refine ⟨.inr ⟨hl, ?_⟩, .inr (.inr (.inl ⟨h0, rfl⟩))⟩
        rcases hi with ⟨h1, _⟩ | ⟨_, h1⟩
        · omega
        · exact h1
    · rw [if_pos ha]; exact ⟨hi, .inl ⟨_, ha, rfl⟩⟩
  by_cases h1 : d.f0 = 1
  · have hb : M.deed d = (⟨0, [], false⟩, M.tryGo.1, 0, M.tryGo.2) := by unfold TM.deed; rw [if_neg h0, if_pos h1]
    rw [hb]; unfold TM.tryGo
    cases hm : M.may with
    | true => rw [if_pos rfl]; exact ⟨inv_go hi hm, .inr (.inl ⟨.inr h1, rfl⟩)⟩
    | false => rw [if_neg (by decide)]; exact ⟨hi, .inr (.inr (.inr (.inl ⟨h1, rfl⟩)))⟩
  by_cases h2 : d.f0 = 2
  · have hb : M.deed d = ((M.fin d.f2).1, false, (M.fin d.f2).2.1, (M.fin d.f2).2.2) := by unfold TM.deed; rw [if_neg h0, if_neg h1, if_pos h2]
    rw [hb]; unfold TM.fin
    by_cases h : M.act = 0
    · rw [if_pos h]; exact ⟨hi, .inl ⟨4, by decide, rfl⟩⟩
    · rw [if_neg h]
      cases hc : M.c with
      | cons y l =>
        simp only
        refine ⟨?_, .inr (.inr (.inr (.inr (.inl ⟨h2, by omega, y, l, rfl, hp y (by simp [hc]), rfl⟩))))⟩
        rcases hi with ⟨_, h3⟩ | h3
        · rw [hc] at h3; exact absurd h3 (by simp)
        · exact .inr h3
      | nil =>
        simp only
        by_cases h1' : M.act = 1
        · rw [if_pos h1']
          refine ⟨?_, .inr (.inr (.inr (.inr (.inr (.inl ⟨h2, h1', trivial, rfl⟩)))))⟩
          rcases hi with ⟨h3, _⟩ | ⟨h3, _⟩
          · exact .inl ⟨h3, rfl⟩
          · exact .inr ⟨h3, h3⟩
        · rw [if_neg h1']
          refine ⟨?_, .inr (.inr (.inr (.inr (.inr (.inr (.inl ⟨h2, by omega, trivial, rfl⟩))))))⟩
          rcases hi with ⟨h3, _⟩ | ⟨h3, h4⟩
          · exact .inl ⟨h3, rfl⟩
          · exact .inr ⟨h3, by show M.act - 1 ≤ M.lim; omega⟩
  by_cases h3 : d.f0 = 3
  · have hb : M.deed d = (⟨0, [], false⟩, (M.wait d.f1).1, (M.wait d.f1).2.1, (M.wait d.f1).2.2) := by unfold TM.deed; rw [if_neg h0, if_neg h1, if_neg h2, if_pos h3]
    rw [hb]; unfold TM.wait
    by_cases hk : M.askE d.f1 = 0
    · rw [if_neg (fun h => h hk)]
      by_cases h : M.act = 0
      · rw [if_pos h]; exact ⟨hi, .inr (.inr (.inr (.inr (.inr (.inr (.inr (.inl ⟨h3, h, rfl⟩)))))))⟩
      · rw [if_neg h]; exact ⟨hi, .inr (.inr (.inr (.inr (.inr (.inr (.inr (.inr (.inl ⟨h3, by omega, rfl⟩))))))))⟩
    · rw [if_pos hk]; exact ⟨hi, .inl ⟨_, hk, rfl⟩⟩
  by_cases h4 : d.f0 = 4
  · have hb : M.deed d = (⟨0, [], false⟩, (M.leave d.f1).1, 0, (M.leave d.f1).2) := by unfold TM.deed; rw [if_neg h0, if_neg h1, if_neg h2, if_neg h3, if_pos h4]
    rw [hb]; unfold TM.leave
    by_cases hin : d.f1 ∈ M.c ∨ d.f1 ∈ M.w
    · rw [decide_eq_true hin]
      refine ⟨?_, .inr (.inr (.inr (.inr (.inr (.inr (.inr (.inr (.inr (.inl ⟨h4, rfl⟩)))))))))⟩
      rcases hi with ⟨h5, h6⟩ | h5
      · exact .inl ⟨h5, by show without M.c d.f1 = []; rw [h6]; rfl⟩
      · exact .inr h5
    · have e1 : without M.c d.f1 = M.c := without_none (fun h => hin (.inl h))
      have e2 : without M.w d.f1 = M.w := without_none (fun h => hin (.inr h))
      rw [decide_eq_false hin, e1, e2]
      exact ⟨hi, .inr (.inr (.inr (.inr (.inr (.inr (.inr (.inr (.inr (.inr (.inl ⟨h4, rfl⟩))))))))))⟩
  by_cases h5 : d.f0 = 5
  · have hb : M.deed d = (⟨0, [], false⟩, false, (M.setLimit d.f1).1, (M.setLimit d.f1).2) := by unfold TM.deed; rw [if_neg h0, if_neg h1, if_neg h2, if_neg h3, if_neg h4, if_pos h5]
    rw [hb]; unfold TM.setLimit
    by_cases hx : 0 < M.act ∨ ¬ M.c = []
    · rw [if_pos hx]; exact ⟨hi, .inl ⟨5, by decide, rfl⟩⟩
    · rw [if_neg hx]
      have hc : M.c = [] := by
        by_cases hc : M.c = []
        · exact hc
        · exact absurd (.inr hc) hx
      have hz : ¬ 0 < M.act := fun hh => hx (.inl hh)
      refine ⟨?_, .inr (.inr (.inr (.inr (.inr (.inr (.inr (.inr (.inr (.inr (.inr (.inl ⟨h5, _, rfl⟩)))))))))))⟩
      by_cases hn : d.f1 < -1
      · exact .inl ⟨by show (if d.f1 < -1 then (-1 : Int) else d.f1) = -1; rw [if_pos hn], hc⟩
      · by_cases hn1 : d.f1 = -1
        · exact .inl ⟨by show (if d.f1 < -1 then (-1 : Int) else d.f1) = -1; rw [if_neg hn, hn1], hc⟩
        · refine .inr ?_
          show 0 ≤ (if d.f1 < -1 then (-1 : Int) else d.f1) ∧ M.act ≤ (if d.f1 < -1 then (-1 : Int) else d.f1)
          rw [if_neg hn]; omega
  · have hb : M.deed d = (⟨0, [], false⟩, false, 0, M) := by unfold TM.deed; rw [if_neg h0, if_neg h1, if_neg h2, if_neg h3, if_neg h4, if_neg h5]
    rw [hb]
    exact ⟨hi, .inr (.inr (.inr (.inr (.inr (.inr (.inr (.inr (.inr (.inr (.inr (.inr ⟨h0, h1, h2, h3, h4, h5, rfl⟩)))))))))))⟩
end Go.Proofs.Ytcchbhaiegehjaa
