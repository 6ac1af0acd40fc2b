/-
  The reference's flight against the model: each method answers what the model does, and leaves calls that are in the relation.
-/
import Derived.Test.YtecdkajhcglpdaaFlRH
namespace Go.Proofs.Ytecdkajhcglpdaa
set_option linter.unusedSimpArgs false
set_option linter.unusedVariables false
open Go.RowKit Go.Sep Go.RingM

theorem Rel.short {M : FM} {cs : List CallV} (h : Rel M cs) (hro : RowsOk M.n M.rows) : ∀ c ∈ cs, c.joined.length ≤ 1000000 := by
  intro c hc
  rw [← h.rows c hc]
  unfold FM.row
  split
  · rw [List.getD_eq_getElem?_getD]
    cases hg : M.rows[c.of.toNat]? with
    | none => simp
    | some l =>
      have := rowsLen hro (List.mem_of_getElem? hg)
      have := hro.n2
      show l.length ≤ 1000000
      omega
  · simp
def Good (p : Nat) (M : FM) (k : Nat) (e : World) (X : HProp) (w' : World) : Prop := ∃ cs, Rel M cs ∧ cs.length ≤ k ∧ Holds e w' [X, IsRF p M.n cs]
theorem rDo (p : Nat) (M : FM) (cs : List CallV) (t key : Int) (hr : Rel M cs) (hok : M.Ok) (hro : RowsOk M.n M.rows) (hcl : cs.length ≤ 100000) (e w : World) (X : HProp) (hw : Holds e w [X, IsRF p M.n cs]) :
    Calls Try.prog 10 #[.pointer (some ⟨p, 0, none⟩), .int .i64 t, .int .i64 key] w fun en w' => en = .returned (.tuple #[.int .i64 (M.ask t key).1, .int .i64 (M.ask t key).2.1]) ∧ Good p (M.ask t key).2.2 (cs.length + 1) e X w' := by
  have hjl := Sep.hid (hr.short hro)
  have hj := hr.joins hok hro t
  rcases ask_cases M hok t key with ⟨h1, hb⟩ | ⟨h1, h2, hb⟩ | ⟨h1, h2, h3, hb⟩ | ⟨u, h1, h2, h3, h4, h5, h6, hb⟩ | ⟨h1, h2, h3, h4, hb⟩
  · rw [hb]
    exact (rfDo_3 p M.n cs t key h1 e w X hw).mono fun en w' ⟨h, h2⟩ => ⟨h, cs, hr, by omega, by rw [h2]; exact hw⟩
  · rw [hb]
    obtain ⟨r, l, h5, _, _⟩ := rowOf_some h2
    exact (rfDo_6 p M.n cs t key h1.1 h1.2 hcl hjl (by rw [hj, h5]; omega) e w X hw).mono fun en w' ⟨h, h2⟩ => ⟨h, cs, hr, by omega, h2⟩
  · rw [hb]
    rcases hr.led_cases t with ⟨_, h5⟩ | ⟨i, c, h5, _⟩
    · rw [h5] at h3; cases h3
    · exact (rfDo_4 p M.n cs t key h1.1 h1.2 hcl hjl (by rw [hj, h2]) (by rw [h5]; omega) e w X hw).mono fun en w' ⟨h, h2⟩ => ⟨h, cs, hr, by omega, h2⟩
  · rw [hb]
    have hled : ledI cs t = -1 := by
      rcases hr.led_cases t with ⟨h7, _⟩ | ⟨i, c, _, _, _, h7⟩
      · exact h7
      · rw [h7] at h3; cases h3
    rcases hr.of_cases key with ⟨_, h8⟩ | ⟨i, c, h8, h9, h10, h11, h12⟩
    · rw [h8] at h4; cases h4
    · have hu : c.of = (u : Int) := by rw [h4] at h12; exact (Option.some.inj h12).symm
      have hput : putR M.n M.rows u t = M.rows.set u (M.rows[u] ++ [t]) := by
        unfold putR; rw [if_pos h6, List.getD_eq_getElem?_getD, List.getElem?_eq_getElem h5]; rfl
      refine (rfDo_join p M.n cs t key i c h1.1 h1.2 hcl hjl (by rw [hj, h2]) hled h8 h9 e w X hw).mono fun en w' ⟨h, h2⟩ => ⟨by rw [h, hu], _, ?_, by rw [List.length_set]; omega, h2⟩
      rw [hput]
      exact hr.join hok h9 hu (List.getElem?_eq_getElem h5)
  · rw [hb]
    have hled : ledI cs t = -1 := by
      rcases hr.led_cases t with ⟨h7, _⟩ | ⟨i, c, _, _, _, h7⟩
      · exact h7
      · rw [h7] at h3; cases h3
    have hk : M.keys t = none := by
      cases hq : M.keys t with
      | none => rfl
      | some k => rw [hq] at h3; cases h3
    rcases hr.of_cases key with ⟨h8, _⟩ | ⟨i, c, _, _, _, _, h12⟩
    · exact (rfDo_push p M.n cs t key h1.1 h1.2 hcl hjl (by rw [hj, h2]) hled h8 e w X hw).mono fun en w' ⟨h, h2⟩ => ⟨h, _, hr.push hok hk h4, by simp, h2⟩
    · rw [h4] at h12; cases h12
theorem rFin (p : Nat) (M : FM) (cs : List CallV) (t : Int) (hr : Rel M cs) (hok : M.Ok) (hcl : cs.length ≤ 100000) (e w : World) (X : HProp) (hw : Holds e w [X, IsRF p M.n cs]) :
    Calls Try.prog 11 #[.pointer (some ⟨p, 0, none⟩), .int .i64 t] w fun en w' => ∃ v, en = .returned (.tuple #[v, .int .i64 (M.fin t).2.1]) ∧ ∃ cs', Rel (M.fin t).2.2 cs' ∧ cs'.length ≤ cs.length + 1 ∧ Holds e w' [X, IsRF p (M.fin t).2.2.n cs', IsInts v (M.fin t).1] := by
  rcases fin_cases M hok t with ⟨h1, hb⟩ | ⟨h1, h2, hb⟩ | ⟨key, u, l, h1, h2, h3, h4, h5, hb⟩
  · rw [hb]
    exact (rfFin_3 p M.n cs t h1 e w X hw).mono fun en w' ⟨h, h2⟩ => ⟨_, h, cs, hr, by omega, by rw [h2]; exact hw.addEmp (Sl.nil _ _ _)⟩
  · rw [hb]
    have hled : ledI cs t = -1 := by
      rcases hr.led_cases t with ⟨h7, _⟩ | ⟨i, c, _, _, _, h7⟩
      · exact h7
      · rw [h7] at h2; cases h2
    exact (rfFin_4 p M.n cs t h1.1 h1.2 hcl hled e w X hw).mono fun en w' ⟨h, h2⟩ => ⟨_, h, cs, hr, by omega, by rw [h2]; exact hw.addEmp (Sl.nil _ _ _)⟩
  · rw [hb]
    rcases hr.led_cases t with ⟨_, h7⟩ | ⟨i, c, h6, h7, h8, h9⟩
    · rw [h7] at h3; cases h3
    · have hu : c.of = (u : Int) := by rw [h8, h2]
      have hl : c.joined = l := by rw [← hr.rows c (List.mem_of_getElem? h7), hu, row_at h4]
      refine (rfFin_ok p M.n cs t i c h1.1 h1.2 hcl h6 h7 e w X hw).mono ?_
      rintro en w' ⟨v, h, hw'⟩
      refine ⟨v, h, _, ?_, ?_, by rw [hl] at hw'; exact hw'⟩
      · have hcalls : ∀ k, (if M.leader key = t then setI M.calls key none else M.calls) k = if M.calls k = some (u : Int) then none else M.calls k := by
          intro k
          have hkt : ∀ k', M.calls k' = some (u : Int) → k' = key := by
            intro k' hk'
            have := hok.lead _ _ hk'
            rw [← h2, h3] at this
            exact (Option.some.inj this).symm
          by_cases hlk : M.leader key = t
          · rw [if_pos hlk]
            have hck : M.calls key = some (u : Int) := by
              unfold FM.leader at hlk
              cases hq : M.calls key with
              | none => rw [hq] at hlk; simp at hlk; omega
              | some y => rw [hq] at hlk; simp at hlk; rw [hlk, h2]
            unfold setI
            by_cases hkk : k = key
            · rw [if_pos hkk, hkk, if_pos hck]
            · rw [if_neg hkk, if_neg (fun hh => hkk (hkt k hh))]
          · rw [if_neg hlk, if_neg]
            intro hh
            apply hlk
            rw [hkt k hh] at hh
            unfold FM.leader
            rw [hh, h2]; rfl
        have := hr.fin hok h7 hu hcalls
        rw [h2] at this ⊢
        exact this
      · rw [List.length_eraseIdx]; split <;> omega
theorem rForget (p : Nat) (M : FM) (cs : List CallV) (k : Int) (hr : Rel M cs) (hcl : cs.length ≤ 100000) (e w : World) (X : HProp) (hw : Holds e w [X, IsRF p M.n cs]) :
    Calls Try.prog 12 #[.pointer (some ⟨p, 0, none⟩), .int .i64 k] w fun en w' => en = .returned (.bool (M.forget k).1) ∧ Good p (M.forget k).2 (cs.length + 1) e X w' := by
  rcases hr.of_cases k with ⟨h1, h2⟩ | ⟨i, c, h1, h2, h3, h4, h5⟩
  · have hb : M.forget k = (false, M) := by
      unfold FM.forget; rw [h2]
      have : setI M.calls k none = M.calls := by funext x; unfold setI; split <;> simp_all
      rw [this]; rfl
    rw [hb]
    exact (rfForget_no p M.n cs k hcl h1 e w X hw).mono fun en w' ⟨h, h2⟩ => ⟨h, cs, hr, by omega, h2⟩
  · have hb : (M.forget k).1 = true := by unfold FM.forget; rw [h5]; rfl
    rw [hb]
    refine (rfForget_ok p M.n cs k i c hcl h2 h1 e w X hw).mono fun en w' ⟨h, h6⟩ => ⟨h, _, ?_, by rw [List.length_set]; omega, h6⟩
    subst h3
    exact hr.forget h2 h4
theorem rLeave (p : Nat) (M : FM) (cs : List CallV) (t : Int) (hr : Rel M cs) (hok : M.Ok) (hro : RowsOk M.n M.rows) (hcl : cs.length ≤ 100000) (e w : World) (X : HProp) (hw : Holds e w [X, IsRF p M.n cs]) :
    Calls Try.prog 13 #[.pointer (some ⟨p, 0, none⟩), .int .i64 t] w fun en w' => en = .returned (.bool (M.leave t).1) ∧ Good p (M.leave t).2 (cs.length + 1) e X w' := by
  have hj := hr.joins hok hro t
  have hb : (M.leave t).1 = decide (0 ≤ joinsC cs t) := by
    unfold FM.leave
    rw [hj]
    by_cases h : rowOf M.rows t = -1
    · simp [h]
    · obtain ⟨r, l, h5, _, _⟩ := rowOf_some h
      simp [h5]
  rw [hb]
  exact (rfLeave p M.n cs t hcl (Sep.hid (hr.short hro)) e w X hw).mono fun en w' ⟨h, h6⟩ => ⟨h, _, hr.leave t, by rw [List.length_map]; omega, h6⟩
end Go.Proofs.Ytecdkajhcglpdaa
