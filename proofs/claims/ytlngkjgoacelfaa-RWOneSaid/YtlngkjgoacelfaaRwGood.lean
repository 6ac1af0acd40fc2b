/-
  What stays true of a lock behind each act; who is given.
-/
import Derived.Test.YtlngkjgoacelfaaRwDo
namespace Go.Proofs.Ytlngkjgoacelfaa
set_option linter.unusedSimpArgs false
set_option linter.unusedVariables false
open Go.RowKit Go.Sep Go.RingM

/-- Nobody holds it beside a writer; nobody waits where it could be given. -/
structure LM.Good (M : LM) : Prop where
  a : ¬ M.wt = [] → M.rd = []
  b : M.wt = [] → M.rd = [] → M.ww = [] ∧ M.wr = []
  c : M.wt = [] → M.ww = [] → M.wr = []
theorem good_give {M : LM} (h : ¬ M.wt = [] → M.rd = []) : M.give.2.Good := by
  rcases give_cases M with ⟨hw, hb⟩ | ⟨hw, hq, hb⟩ | ⟨y, l, hw, hq, hr, hb⟩ | ⟨y, l, hw, hq, hr, hb⟩
  · rw [hb]; exact ⟨h, fun h2 => absurd h2 hw, fun h2 => absurd h2 hw⟩
  · rw [hb]; exact ⟨fun h2 => absurd rfl h2, fun _ _ => ⟨rfl, rfl⟩, fun _ _ => rfl⟩
  · rw [hb]; exact ⟨fun _ => rfl, (fun h2 => by cases h2), (fun h2 => by cases h2)⟩
  · rw [hb]; exact ⟨h, fun _ h3 => absurd h3 hr, fun _ h3 => by rw [hq] at h3; cases h3⟩
theorem weak_put {M : LM} (h : ¬ M.wt = [] → M.rd = []) (t : Int) (w : Bool) : ¬ (M.put t w).wt = [] → (M.put t w).rd = [] := by
  unfold LM.put; split <;> exact h
theorem weak_drop {M : LM} (h : ¬ M.wt = [] → M.rd = []) (t : Int) : ¬ (M.drop t).wt = [] → (M.drop t).rd = [] := by
  intro h2
  show without M.rd t = []
  rw [h (fun h3 => h2 (by show without M.wt t = []; rw [h3]; rfl))]; rfl
theorem good_act {M : LM} (h : M.Good) (d : Deed) : (M.act d).2.2.2.Good := by
  unfold LM.act LM.ask LM.unlock LM.leave
  repeat' split
  all_goals first | exact h | exact good_give (weak_put h.a _ _) | exact good_give (weak_drop h.a _)
/-- Who waits to write, but the one that leaves. -/
def LM.left (M : LM) (d : Deed) : List Int := if d.f0 = 3 ∧ (M.act d).2.1 = true then without M.ww d.f1 else M.ww
structure Prefers (M : LM) (d : Deed) (o : List Int) (b : Bool) (er : Int) (M' : LM) (left : List Int) : Prop where
  p1 : ¬ left = [] → ∀ x ∈ M'.rd, x ∈ M.rd
  p2 : ¬ left = [] → 0 ≤ M'.writer → ¬ M'.writer = M.writer → M'.writer = left.headD (-1)
  p3 : d.f0 = 0 → er = 0 → b = (decide (M.writer < 0) && M.ww.isEmpty)
  p4 : d.f0 = 1 → er = 0 → b = (decide (M.writer < 0) && M.ww.isEmpty && M.rd.isEmpty)
  p5 : ∀ x ∈ o, x = M'.writer ∨ x ∈ M'.rd
theorem give_out (M : LM) (h : M.Ok) : ∀ x ∈ M.give.1, x = M.give.2.writer ∨ x ∈ M.give.2.rd := by
  intro x hx
  rcases give_cases M with ⟨hw, hb⟩ | ⟨hw, hq, hb⟩ | ⟨y, l, hw, hq, hr, hb⟩ | ⟨y, l, hw, hq, hr, hb⟩
  · rw [hb] at hx; cases hx
  · rw [hb] at hx ⊢; exact .inr (List.mem_append_right _ hx)
  · rw [hb] at hx ⊢
    exact .inl (List.mem_singleton.1 hx)
  · rw [hb] at hx; cases hx
/-- Give lets nobody read while one waits to write. -/
theorem give_rd (M : LM) (h : ¬ M.ww = []) : M.give.2.rd = M.rd := by
  rcases give_cases M with ⟨hw, hb⟩ | ⟨hw, hq, hb⟩ | ⟨y, l, hw, hq, hr, hb⟩ | ⟨y, l, hw, hq, hr, hb⟩
  · rw [hb]
  · exact absurd hq h
  · rw [hb]; exact hr.symm
  · rw [hb]
/-- Who writes anew is who waited first to write. -/
theorem give_wt (M : LM) : M.give.2.wt = M.wt ∨ (M.wt = [] ∧ ∃ y l, M.ww = y :: l ∧ M.give.2.wt = [y]) := by
  rcases give_cases M with ⟨hw, hb⟩ | ⟨hw, hq, hb⟩ | ⟨y, l, hw, hq, hr, hb⟩ | ⟨y, l, hw, hq, hr, hb⟩
  · rw [hb]; exact .inl rfl
  · rw [hb]; exact .inl hw.symm
  · rw [hb]; exact .inr ⟨hw, y, l, hq, rfl⟩
  · rw [hb]; exact .inl rfl
theorem writer_neg {M : LM} (h : M.Ok) : decide (M.writer < 0) = M.wt.isEmpty := by
  unfold LM.writer
  cases hw : M.wt with
  | nil => rfl
  | cons y l =>
    have := (h.pos y (.inr (.inr (.inr (by rw [hw]; simp))))).1
    simp; omega
theorem prefers {M : LM} (h : M.Ok) (hg : M.Good) (d : Deed) : Prefers M d (M.act d).1 (M.act d).2.1 (M.act d).2.2.1 (M.act d).2.2.2 (M.left d) := by
  have asks : ∀ (w : Bool) (t : Int), (0 ≤ t ∧ t < M.n) → t ∉ M.wr → t ∉ M.ww → t ∉ M.rd → t ∉ M.wt →
      (¬ M.ww = [] → ∀ x ∈ (M.put t w).give.2.rd, x ∈ M.rd) ∧ (¬ M.ww = [] → ¬ (M.put t w).give.2.writer = M.writer → (M.put t w).give.2.writer = M.ww.headD (-1)) ∧
      decide (t ∈ (M.put t w).give.2.rd ∨ t ∈ (M.put t w).give.2.wt) = (M.wt.isEmpty && M.ww.isEmpty && (!w || M.rd.isEmpty)) := by
    intro w t ht h1 h2 h3 h4
    have hww : ¬ M.ww = [] → ¬ (M.put t w).ww = [] := by
      intro hh; unfold LM.put; split
      · simp
      · exact hh
    have hrd : (M.put t w).rd = M.rd := by unfold LM.put; split <;> rfl
    have hwt : (M.put t w).wt = M.wt := by unfold LM.put; split <;> rfl
    refine ⟨fun hh x hx => ?_, fun hh hne => ?_, ?_⟩
    · rw [give_rd _ (hww hh), hrd] at hx; exact hx
    · rcases give_wt (M.put t w) with hk | ⟨_, y, l, hq, hk⟩
      · exact absurd (by unfold LM.writer; rw [hk, hwt]) hne
      · unfold LM.writer; rw [hk]
        cases hm : M.ww with
        | nil => exact absurd hm hh
        | cons z k =>
          have : (M.put t w).ww = z :: (k ++ if w then [t] else []) := by
            unfold LM.put; split <;> simp_all
          rw [this] at hq; cases hq; rfl
    · rcases give_cases (M.put t w) with ⟨hw, hb⟩ | ⟨hw, hq, hb⟩ | ⟨y, l, hw, hq, hr, hb⟩ | ⟨y, l, hw, hq, hr, hb⟩
      · rw [hb, hrd, hwt]
        rw [hwt] at hw
        have : M.wt.isEmpty = false := by cases hh : M.wt <;> simp_all
        simp [h3, h4, this]
      · rw [hb]
        rw [hwt] at hw
        have hwf : w = false ∧ M.ww = [] := by
          unfold LM.put at hq
          cases w with
          | true => simp at hq
          | false => exact ⟨rfl, hq⟩
        obtain ⟨rfl, hq'⟩ := hwf
        have : t ∈ (M.put t false).rd ++ (M.put t false).wr := by simp [LM.put]
        simp [this, hw, hq']
      · rw [hb]
        rw [hwt] at hw; rw [hrd] at hr
        have hgb := hg.b hw hr
        cases w with
        | false =>
          have : (M.put t false).ww = M.ww := rfl
          rw [this, hgb.1] at hq; cases hq
        | true =>
          have : (M.put t true).ww = M.ww ++ [t] := rfl
          rw [this, hgb.1] at hq
          simp only [List.nil_append, List.cons.injEq] at hq
          simp [hq.1, hw, hgb.1, hr]
      · rw [hb, hrd, hwt]
        rw [hwt] at hw; rw [hrd] at hr
        have hre : M.rd.isEmpty = false := by cases hh : M.rd <;> simp_all
        cases w with
        | true => simp [h3, h4, hre]
        | false =>
          have hq2 : M.ww = y :: l := hq
          simp [h3, h4, hq2]
  have gives : ∀ (t : Int), t ∉ M.ww ∨ t ∉ M.rd ∧ t ∉ M.wt → ((M.drop t).ww = without M.ww t) ∧
      (¬ without M.ww t = [] → ∀ x ∈ (M.drop t).give.2.rd, x ∈ M.rd) ∧ (¬ without M.ww t = [] → 0 ≤ (M.drop t).give.2.writer → ¬ (M.drop t).give.2.writer = M.writer → (M.drop t).give.2.writer = (without M.ww t).headD (-1)) ∧
      (∀ x ∈ (M.drop t).give.1, x = (M.drop t).give.2.writer ∨ x ∈ (M.drop t).give.2.rd) := by
    intro t _
    refine ⟨rfl, fun hh x hx => ?_, fun hh h0 hne => ?_, give_out _ (h.drop t)⟩
    · rw [give_rd _ hh] at hx; exact (without_mem.1 hx).1
    · rcases give_wt (M.drop t) with hk | ⟨_, y, l, hq, hk⟩
      · exfalso
        have e : (M.drop t).give.2.writer = (without M.wt t).headD (-1) := by unfold LM.writer; rw [hk]; rfl
        rw [e] at h0 hne
        have h1 := h.one
        cases hm : M.wt with
        | nil => rw [hm] at h0; simp [without] at h0
        | cons z k =>
          rw [hm] at h1
          have : k = [] := List.eq_nil_of_length_eq_zero (by simpa using h1)
          subst this
          by_cases hz : z = t
          · rw [hm] at h0; simp [without, hz] at h0
          · apply hne
            unfold LM.writer
            rw [hm]; simp [without, hz]
      · have hq2 : without M.ww t = y :: l := hq
        unfold LM.writer; rw [hk, hq2]; rfl
  by_cases h0 : d.f0 = 0
  · have hb : M.act d = ([], (M.ask d.f1 false).1, (M.ask d.f1 false).2.1, (M.ask d.f1 false).2.2) := by unfold LM.act; rw [if_pos h0]
    have hl : M.left d = M.ww := by unfold LM.left; rw [if_neg (by omega)]
    rw [hb, hl]
    rcases ask_cases M d.f1 false with ⟨er, her, hb, _⟩ | ⟨ht, h1, h2, h3, h4, hb⟩
    · rw [hb]; exact ⟨fun _ x hx => hx, fun _ _ hn => absurd rfl hn, fun _ he => absurd he her, fun _ he => absurd he her, by simp⟩
    · obtain ⟨q1, q2, q3⟩ := asks false d.f1 ht h1 h2 h3 h4
      rw [hb]; exact ⟨q1, fun hh _ => q2 hh, fun _ _ => by rw [q3, writer_neg h]; simp, fun hh => by omega, by simp⟩
  by_cases h1 : d.f0 = 1
  · have hb : M.act d = ([], (M.ask d.f1 true).1, (M.ask d.f1 true).2.1, (M.ask d.f1 true).2.2) := by unfold LM.act; rw [if_neg h0, if_pos h1]
    have hl : M.left d = M.ww := by unfold LM.left; rw [if_neg (by omega)]
    rw [hb, hl]
    rcases ask_cases M d.f1 true with ⟨er, her, hb, _⟩ | ⟨ht, h1', h2, h3, h4, hb⟩
    · rw [hb]; exact ⟨fun _ x hx => hx, fun _ _ hn => absurd rfl hn, fun _ he => absurd he her, fun _ he => absurd he her, by simp⟩
    · obtain ⟨q1, q2, q3⟩ := asks true d.f1 ht h1' h2 h3 h4
      rw [hb]; exact ⟨q1, fun hh _ => q2 hh, fun hh => by omega, fun _ _ => by rw [q3, writer_neg h]; simp, by simp⟩
  by_cases h2 : d.f0 = 2
  · have hb : M.act d = ((M.unlock d.f1).1, false, (M.unlock d.f1).2.1, (M.unlock d.f1).2.2) := by unfold LM.act; rw [if_neg h0, if_neg h1, if_pos h2]
    have hl : M.left d = M.ww := by unfold LM.left; rw [if_neg (by omega)]
    rw [hb, hl]; unfold LM.unlock
    split
    · exact ⟨fun _ x hx => hx, fun _ _ hn => absurd rfl hn, fun hh => by omega, fun hh => by omega, by simp⟩
    split
    · exact ⟨fun _ x hx => hx, fun _ _ hn => absurd rfl hn, fun hh => by omega, fun hh => by omega, by simp⟩
    · rename_i hin
      have hin : d.f1 ∈ M.rd ∨ d.f1 ∈ M.wt := by
        by_cases hh : d.f1 ∈ M.rd ∨ d.f1 ∈ M.wt
        · exact hh
        · exact absurd hh hin
      have hnw : d.f1 ∉ M.ww := by
        obtain ⟨n1, n2, n3, n4, n5, n6, n7⟩ := nodup4.1 h.nd
        intro hh
        have := n6 _ hh
        exact hin.elim this.1 this.2
      obtain ⟨_, q1, q2, q3⟩ := gives d.f1 (.inl hnw)
      rw [without_none hnw] at q1 q2
      exact ⟨q1, q2, fun hh => by omega, fun hh => by omega, q3⟩
  by_cases h3 : d.f0 = 3
  · have hb : M.act d = ((M.leave d.f1).1, (M.leave d.f1).2.1, 0, (M.leave d.f1).2.2) := by unfold LM.act; rw [if_neg h0, if_neg h1, if_neg h2, if_pos h3]
    by_cases hin : d.f1 ∈ M.wr ∨ d.f1 ∈ M.ww
    · have hv : M.leave d.f1 = ((M.drop d.f1).give.1, true, (M.drop d.f1).give.2) := by unfold LM.leave; rw [if_pos hin]
      have hl : M.left d = without M.ww d.f1 := by unfold LM.left; rw [hb, hv, if_pos ⟨h3, rfl⟩]
      rw [hl, hb, hv]
      have hnn : d.f1 ∉ M.rd ∧ d.f1 ∉ M.wt := by
        obtain ⟨n1, n2, n3, n4, n5, n6, n7⟩ := nodup4.1 h.nd
        rcases hin with hh | hh
        · exact ⟨(n5 _ hh).2.1, (n5 _ hh).2.2⟩
        · exact n6 _ hh
      obtain ⟨_, q1, q2, q3⟩ := gives d.f1 (.inr hnn)
      exact ⟨q1, q2, fun hh => by omega, fun hh => by omega, q3⟩
    · have hv : M.leave d.f1 = ([], false, M) := by unfold LM.leave; rw [if_neg hin]
      have hl : M.left d = M.ww := by unfold LM.left; rw [hb, hv, if_neg (by simp)]
      rw [hl, hb, hv]
      exact ⟨fun _ x hx => hx, fun _ _ hn => absurd rfl hn, fun hh => by omega, fun hh => by omega, by simp⟩
  · have hb : M.act d = ([], false, 0, M) := by unfold LM.act; rw [if_neg h0, if_neg h1, if_neg h2, if_neg h3]
    have hl : M.left d = M.ww := by unfold LM.left; rw [if_neg (fun hh => h3 hh.1)]
    rw [hb, hl]
    exact ⟨fun _ x hx => hx, fun _ _ hn => absurd rfl hn, fun hh => absurd hh h0, fun hh => absurd hh h1, by simp⟩
end Go.Proofs.Ytlngkjgoacelfaa
