/-
  A lock for one who writes, or several who read, as plain data: what its methods answer, and what they leave.
-/
import Derived.Test.YtlngkjgoacelfaaRowsM
import Derived.Test.YtlngkjgoacelfaaDeed
namespace Go.Proofs.Ytlngkjgoacelfaa
set_option linter.unusedSimpArgs false
set_option linter.unusedVariables false
open Go.RowKit Go.Sep Go.RingM

structure LM where
  n : Nat
  wr : List Int
  ww : List Int
  rd : List Int
  wt : List Int
def LM.give (M : LM) : List Int × LM :=
  if ¬ M.wt = [] then ([], M)
  else match M.ww with
    | [] => (M.wr, ⟨M.n, [], [], M.rd ++ M.wr, M.wt⟩)
    | y :: l => if M.rd = [] then ([y], ⟨M.n, M.wr, l, M.rd, M.wt ++ [y]⟩) else ([], M)
def LM.put (M : LM) (t : Int) (w : Bool) : LM := if w then ⟨M.n, M.wr, M.ww ++ [t], M.rd, M.wt⟩ else ⟨M.n, M.wr ++ [t], M.ww, M.rd, M.wt⟩
def LM.drop (M : LM) (t : Int) : LM := ⟨M.n, without M.wr t, without M.ww t, without M.rd t, without M.wt t⟩
def LM.ask (M : LM) (t : Int) (w : Bool) : Bool × Int × LM :=
  if ¬ (0 ≤ t ∧ t < M.n) then (false, 3, M)
  else if t ∈ M.wr ∨ t ∈ M.ww then (false, 6, M)
  else if t ∈ M.rd ∨ t ∈ M.wt then (false, 4, M)
  else (decide (t ∈ (M.put t w).give.2.rd ∨ t ∈ (M.put t w).give.2.wt), 0, (M.put t w).give.2)
def LM.unlock (M : LM) (t : Int) : List Int × Int × LM :=
  if ¬ (0 ≤ t ∧ t < M.n) then ([], 3, M)
  else if ¬ (t ∈ M.rd ∨ t ∈ M.wt) then ([], 4, M)
  else ((M.drop t).give.1, 0, (M.drop t).give.2)
def LM.leave (M : LM) (t : Int) : List Int × Bool × LM :=
  if t ∈ M.wr ∨ t ∈ M.ww then ((M.drop t).give.1, true, (M.drop t).give.2) else ([], false, M)
def LM.writer (M : LM) : Int := M.wt.headD (-1)
def LM.act (M : LM) (a : Deed) : List Int × Bool × Int × LM :=
  if a.f0 = 0 then ([], (M.ask a.f1 false).1, (M.ask a.f1 false).2.1, (M.ask a.f1 false).2.2)
  else if a.f0 = 1 then ([], (M.ask a.f1 true).1, (M.ask a.f1 true).2.1, (M.ask a.f1 true).2.2)
  else if a.f0 = 2 then ((M.unlock a.f1).1, false, (M.unlock a.f1).2.1, (M.unlock a.f1).2.2)
  else if a.f0 = 3 then ((M.leave a.f1).1, (M.leave a.f1).2.1, 0, (M.leave a.f1).2.2)
  else ([], false, 0, M)

theorem rowOf4 (a b c d : List Int) (x : Int) : rowOf [a, b, c, d] x = if x ∈ a then 0 else if x ∈ b then 1 else if x ∈ c then 2 else if x ∈ d then 3 else -1 := by
  unfold rowOf
  by_cases h1 : x ∈ a <;> by_cases h2 : x ∈ b <;> by_cases h3 : x ∈ c <;> by_cases h4 : x ∈ d <;> simp [List.findIdx?_cons, h1, h2, h3, h4]
theorem putE4 (n : Nat) (a b c d : List Int) (x : Int) (h0 : 0 ≤ x ∧ x < n) (h1 : x ∉ a) (h2 : x ∉ b) (h3 : x ∉ c) (h4 : x ∉ d) : putE n [a, b, c, d] x = 0 := by
  unfold putE
  rw [if_pos h0, rowOf4, if_neg h1, if_neg h2, if_neg h3, if_neg h4]; rfl
/-- What stays true of one. -/
structure LM.Ok (M : LM) : Prop where
  pos : ∀ x, x ∈ M.wr ∨ x ∈ M.ww ∨ x ∈ M.rd ∨ x ∈ M.wt → 0 ≤ x ∧ x < M.n
  nd : (M.wr ++ M.ww ++ M.rd ++ M.wt).Nodup
  one : M.wt.length ≤ 1
  n2 : M.n ≤ 1000
theorem LM.ok_new (n : Nat) (h : n ≤ 1000) : LM.Ok ⟨n, [], [], [], []⟩ := ⟨by simp, by simp, by simp, h⟩
theorem nodup4 {a b c d : List Int} : (a ++ b ++ c ++ d).Nodup ↔ a.Nodup ∧ b.Nodup ∧ c.Nodup ∧ d.Nodup ∧ (∀ x ∈ a, x ∉ b ∧ x ∉ c ∧ x ∉ d) ∧ (∀ x ∈ b, x ∉ c ∧ x ∉ d) ∧ (∀ x ∈ c, x ∉ d) := by
  simp only [List.nodup_append, List.mem_append]
  constructor
  · rintro ⟨⟨⟨h1, h2, h3⟩, h4, h5⟩, h6, h7⟩
    exact ⟨h1, h2, h4, h6, fun x hx => ⟨fun h => h3 x hx x h rfl, fun h => h5 x (.inl hx) x h rfl, fun h => h7 x (.inl (.inl hx)) x h rfl⟩,
      fun x hx => ⟨fun h => h5 x (.inr hx) x h rfl, fun h => h7 x (.inl (.inr hx)) x h rfl⟩, fun x hx h => h7 x (.inr hx) x h rfl⟩
  · rintro ⟨h1, h2, h3, h4, h5, h6, h7⟩
    refine ⟨⟨⟨h1, h2, fun x hx y hy e => (h5 x hx).1 (e ▸ hy)⟩, h3, ?_⟩, h4, ?_⟩
    · rintro x (hx | hx) y hy rfl
      · exact (h5 x hx).2.1 hy
      · exact (h6 x hx).1 hy
    · rintro x ((hx | hx) | hx) y hy rfl
      · exact (h5 x hx).2.2 hy
      · exact (h6 x hx).2 hy
      · exact h7 x hx hy
theorem without_mem {l : List Int} {x y : Int} : y ∈ without l x ↔ y ∈ l ∧ ¬ y = x := by unfold without; simp
theorem without_len' (l : List Int) (x : Int) : (without l x).length ≤ l.length := List.length_filter_le _ _
theorem without_nodup {l : List Int} (h : l.Nodup) (x : Int) : (without l x).Nodup := h.filter _
theorem LM.Ok.drop {M : LM} (h : M.Ok) (t : Int) : (M.drop t).Ok := by
  have hn := nodup4.1 h.nd
  refine ⟨?_, nodup4.2 ?_, Nat.le_trans (without_len' _ _) h.one, h.n2⟩
  · rintro x (hx | hx | hx | hx)
    · exact h.pos x (.inl (without_mem.1 hx).1)
    · exact h.pos x (.inr (.inl (without_mem.1 hx).1))
    · exact h.pos x (.inr (.inr (.inl (without_mem.1 hx).1)))
    · exact h.pos x (.inr (.inr (.inr (without_mem.1 hx).1)))
  · obtain ⟨h1, h2, h3, h4, h5, h6, h7⟩ := hn
    refine ⟨without_nodup h1 t, without_nodup h2 t, without_nodup h3 t, without_nodup h4 t, ?_, ?_, ?_⟩
    · intro x hx
      have := h5 x (without_mem.1 hx).1
      exact ⟨fun h => this.1 (without_mem.1 h).1, fun h => this.2.1 (without_mem.1 h).1, fun h => this.2.2 (without_mem.1 h).1⟩
    · intro x hx
      have := h6 x (without_mem.1 hx).1
      exact ⟨fun h => this.1 (without_mem.1 h).1, fun h => this.2 (without_mem.1 h).1⟩
    · intro x hx h
      exact h7 x (without_mem.1 hx).1 (without_mem.1 h).1
theorem LM.Ok.put {M : LM} (h : M.Ok) {t : Int} (w : Bool) (ht : 0 ≤ t ∧ t < M.n) (h1 : t ∉ M.wr) (h2 : t ∉ M.ww) (h3 : t ∉ M.rd) (h4 : t ∉ M.wt) : (M.put t w).Ok := by
  obtain ⟨n1, n2, n3, n4, n5, n6, n7⟩ := nodup4.1 h.nd
  have snoc : ∀ l : List Int, l.Nodup → t ∉ l → (l ++ [t]).Nodup := fun l hl hn => by
    rw [List.nodup_append]
    exact ⟨hl, by simp, fun x hx y hy e => by rw [List.mem_singleton.1 hy] at e; exact hn (e ▸ hx)⟩
  cases w with
  | true =>
    refine ⟨?_, nodup4.2 ⟨n1, snoc _ n2 h2, n3, n4, ?_, ?_, n7⟩, h.one, h.n2⟩
    · rintro x (hx | hx | hx | hx)
      · exact h.pos x (.inl hx)
      · rcases List.mem_append.1 hx with hx | hx
        · exact h.pos x (.inr (.inl hx))
        · rw [List.mem_singleton.1 hx]; exact ht
      · exact h.pos x (.inr (.inr (.inl hx)))
      · exact h.pos x (.inr (.inr (.inr hx)))
    · intro x hx
      refine ⟨fun h => ?_, (n5 x hx).2⟩
      rcases List.mem_append.1 h with h | h
      · exact (n5 x hx).1 h
      · rw [List.mem_singleton.1 h] at hx; exact h1 hx
    · intro x hx
      rcases List.mem_append.1 hx with hx | hx
      · exact n6 x hx
      · rw [List.mem_singleton.1 hx]; exact ⟨h3, h4⟩
  | false =>
    refine ⟨?_, nodup4.2 ⟨snoc _ n1 h1, n2, n3, n4, ?_, n6, n7⟩, h.one, h.n2⟩
    · rintro x (hx | hx | hx | hx)
      · rcases List.mem_append.1 hx with hx | hx
        · exact h.pos x (.inl hx)
        · rw [List.mem_singleton.1 hx]; exact ht
      · exact h.pos x (.inr (.inl hx))
      · exact h.pos x (.inr (.inr (.inl hx)))
      · exact h.pos x (.inr (.inr (.inr hx)))
    · intro x hx
      rcases List.mem_append.1 hx with hx | hx
      · exact n5 x hx
      · rw [List.mem_singleton.1 hx]; exact ⟨h2, h3, h4⟩
/-- What give does, case by case. -/
theorem give_cases (M : LM) : (¬ M.wt = [] ∧ M.give = ([], M)) ∨
    (M.wt = [] ∧ M.ww = [] ∧ M.give = (M.wr, ⟨M.n, [], [], M.rd ++ M.wr, []⟩)) ∨
    (∃ y l, M.wt = [] ∧ M.ww = y :: l ∧ M.rd = [] ∧ M.give = ([y], ⟨M.n, M.wr, l, [], [y]⟩)) ∨
    (∃ y l, M.wt = [] ∧ M.ww = y :: l ∧ ¬ M.rd = [] ∧ M.give = ([], M)) := by
  unfold LM.give
  by_cases hw : M.wt = []
  · rw [if_neg (fun h => h hw)]
    cases hq : M.ww with
    | nil => exact .inr (.inl ⟨hw, rfl, by simp [hw]⟩)
    | cons y l =>
      by_cases hr : M.rd = []
      · exact .inr (.inr (.inl ⟨y, l, hw, rfl, hr, by simp [hr, hw]⟩))
      · exact .inr (.inr (.inr ⟨y, l, hw, rfl, hr, by simp [hr]⟩))
  · exact .inl ⟨hw, by rw [if_pos hw]⟩
theorem LM.Ok.give {M : LM} (h : M.Ok) : M.give.2.Ok := by
  obtain ⟨n1, n2, n3, n4, n5, n6, n7⟩ := nodup4.1 h.nd
  rcases give_cases M with ⟨_, hb⟩ | ⟨hw, hq, hb⟩ | ⟨y, l, hw, hq, hr, hb⟩ | ⟨y, l, hw, hq, hr, hb⟩
  · rw [hb]; exact h
  · rw [hb]
    refine ⟨?_, nodup4.2 ⟨by simp, by simp, ?_, by simp, by simp, by simp, by simp⟩, by simp, h.n2⟩
    · rintro x (hx | hx | hx | hx)
      · cases hx
      · cases hx
      · rcases List.mem_append.1 hx with hx | hx
        · exact h.pos x (.inr (.inr (.inl hx)))
        · exact h.pos x (.inl hx)
      · cases hx
    · show (M.rd ++ M.wr).Nodup
      rw [List.nodup_append]
      exact ⟨n3, n1, fun x hx y hy e => (n5 y hy).2.1 (e ▸ hx)⟩
  · rw [hb]
    rw [hq] at n2 n6 n5
    have hn := List.nodup_cons.1 n2
    refine ⟨?_, nodup4.2 ⟨n1, hn.2, by simp, by simp, ?_, ?_, by simp⟩, by simp, h.n2⟩
    · rintro x (hx | hx | hx | hx)
      · exact h.pos x (.inl hx)
      · exact h.pos x (.inr (.inl (by rw [hq]; exact List.mem_cons_of_mem _ hx)))
      · cases hx
      · rw [List.mem_singleton.1 hx]; exact h.pos y (.inr (.inl (by rw [hq]; simp)))
    · intro x hx
      have := (n5 x hx).1
      refine ⟨fun h => this (List.mem_cons_of_mem _ h), by simp, fun h => ?_⟩
      rw [List.mem_singleton.1 h] at this
      exact this (by simp)
    · intro x hx
      refine ⟨by simp, fun h => ?_⟩
      rw [List.mem_singleton.1 h] at hx
      exact hn.1 hx
  · rw [hb]; exact h
theorem ask_cases (M : LM) (t : Int) (w : Bool) : (∃ er, ¬ er = 0 ∧ M.ask t w = (false, er, M) ∧ (er = 3 ∧ ¬ (0 ≤ t ∧ t < M.n) ∨ er = 6 ∧ (0 ≤ t ∧ t < M.n) ∧ (t ∈ M.wr ∨ t ∈ M.ww) ∨ er = 4 ∧ (0 ≤ t ∧ t < M.n) ∧ t ∉ M.wr ∧ t ∉ M.ww ∧ (t ∈ M.rd ∨ t ∈ M.wt))) ∨
    ((0 ≤ t ∧ t < M.n) ∧ t ∉ M.wr ∧ t ∉ M.ww ∧ t ∉ M.rd ∧ t ∉ M.wt ∧ M.ask t w = (decide (t ∈ (M.put t w).give.2.rd ∨ t ∈ (M.put t w).give.2.wt), 0, (M.put t w).give.2)) := by
  unfold LM.ask
  by_cases h1 : 0 ≤ t ∧ t < M.n
  · rw [if_neg (fun h => h h1)]
    by_cases h2 : t ∈ M.wr ∨ t ∈ M.ww
    · rw [if_pos h2]; exact .inl ⟨6, by decide, rfl, .inr (.inl ⟨rfl, h1, h2⟩)⟩
    · rw [if_neg h2]
      by_cases h3 : t ∈ M.rd ∨ t ∈ M.wt
      · rw [if_pos h3]; exact .inl ⟨4, by decide, rfl, .inr (.inr ⟨rfl, h1, fun h => h2 (.inl h), fun h => h2 (.inr h), h3⟩)⟩
      · rw [if_neg h3]
        exact .inr ⟨h1, fun h => h2 (.inl h), fun h => h2 (.inr h), fun h => h3 (.inl h), fun h => h3 (.inr h), rfl⟩
  · rw [if_pos h1]; exact .inl ⟨3, by decide, rfl, .inl ⟨rfl, h1⟩⟩
theorem LM.Ok.ask {M : LM} (h : M.Ok) (t : Int) (w : Bool) : (M.ask t w).2.2.Ok := by
  rcases ask_cases M t w with ⟨er, _, hb, _⟩ | ⟨h1, h2, h3, h4, h5, hb⟩
  · rw [hb]; exact h
  · rw [hb]; exact (h.put w h1 h2 h3 h4 h5).give
theorem LM.Ok.unlock {M : LM} (h : M.Ok) (t : Int) : (M.unlock t).2.2.Ok := by
  unfold LM.unlock
  split
  · exact h
  split
  · exact h
  · exact (h.drop t).give
theorem LM.Ok.leave {M : LM} (h : M.Ok) (t : Int) : (M.leave t).2.2.Ok := by
  unfold LM.leave
  split
  · exact (h.drop t).give
  · exact h
theorem LM.Ok.act {M : LM} (h : M.Ok) (a : Deed) : (M.act a).2.2.2.Ok := by
  unfold LM.act
  repeat' split
  · exact h.ask _ _
  · exact h.ask _ _
  · exact h.unlock _
  · exact h.leave _
  · exact h
theorem give_n (M : LM) : M.give.2.n = M.n := by
  rcases give_cases M with ⟨_, hb⟩ | ⟨_, _, hb⟩ | ⟨y, l, _, _, _, hb⟩ | ⟨y, l, _, _, _, hb⟩ <;> rw [hb]
theorem put_n (M : LM) (t : Int) (w : Bool) : (M.put t w).n = M.n := by unfold LM.put; split <;> rfl
theorem act_n (M : LM) (a : Deed) : (M.act a).2.2.2.n = M.n := by
  unfold LM.act LM.ask LM.unlock LM.leave
  repeat' split
  all_goals first | rfl | exact (give_n _).trans (put_n _ _ _) | exact give_n _
end Go.Proofs.Ytlngkjgoacelfaa
