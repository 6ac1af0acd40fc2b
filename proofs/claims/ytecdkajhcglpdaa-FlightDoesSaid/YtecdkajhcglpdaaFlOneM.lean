/-
  What an act on a flight may do, told apart; the rows from which a node is taken one after another.
-/
import Derived.Test.YtecdkajhcglpdaaFlDo
import Derived.Test.YtecdkajhcglpdaaRMap
namespace Go.Proofs.Ytecdkajhcglpdaa
set_option linter.unusedSimpArgs false
set_option linter.unusedVariables false
open Go.RowKit Go.Sep Go.RingM

theorem act_cases (M : FM) (h : M.Ok) (d : Deed) :
    (∃ y x4, (x4 = 3 ∨ x4 = 4 ∨ x4 = 6) ∧ M.act d = (y, false, [], x4, M)) ∨
    (∃ (u : Nat) (l : List Int), d.f0 = 0 ∧ M.calls d.f2 = some (u : Int) ∧ M.rows[u]? = some l ∧ ¬ (u : Int) = d.f1 ∧ M.act d = ((u : Int), false, [], 0, ⟨M.n, M.rows.set u (l ++ [d.f1]), M.calls, M.keys⟩)) ∨
    (d.f0 = 0 ∧ M.calls d.f2 = none ∧ M.act d = (d.f1, false, [], 0, ⟨M.n, M.rows, setI M.calls d.f2 (some d.f1), setI M.keys d.f1 (some d.f2)⟩)) ∨
    (∃ (key : Int) (u : Nat) (l : List Int), d.f0 = 1 ∧ d.f1 = (u : Int) ∧ M.keys u = some key ∧ M.rows[u]? = some l ∧ M.act d = (0, false, l, 0, ⟨M.n, M.rows.set u [], if M.leader key = (u : Int) then setI M.calls key none else M.calls, setI M.keys u none⟩)) ∨
    (d.f0 = 2 ∧ M.act d = (0, (M.calls d.f2).isSome, [], 0, ⟨M.n, M.rows, setI M.calls d.f2 none, M.keys⟩)) ∨
    (d.f0 = 3 ∧ M.act d = (0, true, [], 0, ⟨M.n, dropR M.rows d.f1, M.calls, M.keys⟩)) ∨
    (d.f0 = 3 ∧ M.act d = (0, false, [], 0, M)) ∨
    (¬ d.f0 = 0 ∧ ¬ d.f0 = 1 ∧ ¬ d.f0 = 2 ∧ ¬ d.f0 = 3 ∧ M.act d = (0, false, [], 0, M)) := by
  by_cases h0 : d.f0 = 0
  · have hb : M.act d = ((M.ask d.f1 d.f2).1, false, [], (M.ask d.f1 d.f2).2.1, (M.ask d.f1 d.f2).2.2) := by unfold FM.act; rw [if_pos h0]
    rcases ask_cases M h d.f1 d.f2 with ⟨_, h2⟩ | ⟨_, _, h2⟩ | ⟨_, _, _, h2⟩ | ⟨u, _, _, hk, hc, hu, hp, h2⟩ | ⟨_, _, _, hc, h2⟩
    · rw [hb, h2]; exact .inl ⟨_, _, .inl rfl, rfl⟩
    · rw [hb, h2]; exact .inl ⟨_, _, .inr (.inr rfl), rfl⟩
    · rw [hb, h2]; exact .inl ⟨_, _, .inr (.inl rfl), rfl⟩
    · refine .inr (.inl ⟨u, M.rows[u], h0, hc, List.getElem?_eq_getElem hu, fun e => ?_, ?_⟩)
      · have := h.lead _ _ hc
        rw [e] at this; rw [this] at hk; cases hk
      · rw [hb, h2]
        have : putR M.n M.rows u d.f1 = M.rows.set u (M.rows[u] ++ [d.f1]) := by
          unfold putR; rw [if_pos hp, List.getD_eq_getElem?_getD, List.getElem?_eq_getElem hu]; rfl
        rw [this]
    · rw [hb, h2]; exact .inr (.inr (.inl ⟨h0, hc, rfl⟩))
  by_cases h1 : d.f0 = 1
  · have hb : M.act d = (0, false, (M.fin d.f1).1, (M.fin d.f1).2.1, (M.fin d.f1).2.2) := by unfold FM.act; rw [if_neg h0, if_pos h1]
    rcases fin_cases M h d.f1 with ⟨_, h2⟩ | ⟨_, _, h2⟩ | ⟨key, u, l, _, hu, hk, hl, _, h2⟩
    · rw [hb, h2]; exact .inl ⟨_, _, .inl rfl, rfl⟩
    · rw [hb, h2]; exact .inl ⟨_, _, .inr (.inl rfl), rfl⟩
    · rw [hb, h2]; rw [hu] at hk; refine .inr (.inr (.inr (.inl ⟨key, u, l, h1, hu, hk, hl, ?_⟩))); rw [hu]
  by_cases h2 : d.f0 = 2
  · refine .inr (.inr (.inr (.inr (.inl ⟨h2, ?_⟩)))); unfold FM.act; rw [if_neg h0, if_neg h1, if_pos h2]; rfl
  by_cases h3 : d.f0 = 3
  · have hb : M.act d = (0, (M.leave d.f1).1, [], 0, (M.leave d.f1).2) := by unfold FM.act; rw [if_neg h0, if_neg h1, if_neg h2, if_pos h3]
    by_cases hr : rowOf M.rows d.f1 = -1
    · refine .inr (.inr (.inr (.inr (.inr (.inr (.inl ⟨h3, ?_⟩)))))); rw [hb]; unfold FM.leave; rw [dropR_none hr]; simp [hr]
    · refine .inr (.inr (.inr (.inr (.inr (.inl ⟨h3, ?_⟩))))); rw [hb]; unfold FM.leave; simp [hr]
  · refine .inr (.inr (.inr (.inr (.inr (.inr (.inr ⟨h0, h1, h2, h3, ?_⟩)))))); unfold FM.act; rw [if_neg h0, if_neg h1, if_neg h2, if_neg h3]
/-- The node has been taken from the first k rows. -/
def dropK (rows : List (List Int)) (t : Int) (k : Nat) : List (List Int) := rows.mapIdx (fun i l => if i < k then without l t else l)
theorem dropK_zero (rows : List (List Int)) (t : Int) : dropK rows t 0 = rows := by
  apply List.ext_getElem?; intro i; unfold dropK; rw [List.getElem?_mapIdx]; cases rows[i]? <;> simp
theorem dropK_length (rows : List (List Int)) (t : Int) (k : Nat) : (dropK rows t k).length = rows.length := by unfold dropK; simp
theorem dropK_at {rows : List (List Int)} {k : Nat} {l : List Int} (h : rows[k]? = some l) (t : Int) : (dropK rows t k)[k]? = some l := by
  unfold dropK; rw [List.getElem?_mapIdx, h]; simp
theorem dropK_succ {rows : List (List Int)} {k : Nat} {l : List Int} (h : rows[k]? = some l) (t : Int) : (dropK rows t k).set k (without l t) = dropK rows t (k + 1) := by
  apply List.ext_getElem?
  intro i
  have hk := (List.getElem?_eq_some_iff.1 h).1
  rw [List.getElem?_set, dropK_length]
  unfold dropK
  rw [List.getElem?_mapIdx, List.getElem?_mapIdx]
  by_cases hi : k = i
  · subst hi; rw [h]; simp [hk]
  · rw [if_neg hi]
    cases rows[i]? with
    | none => rfl
    | some m =>
      show some (if i < k then without m t else m) = some (if i < k + 1 then without m t else m)
      have : (i < k) = (i < k + 1) := by apply propext; omega
      simp only [this]
theorem dropK_end {rows : List (List Int)} {k : Nat} (h : rows.length ≤ k) (t : Int) : dropK rows t k = dropR rows t := by
  apply List.ext_getElem?
  intro i
  unfold dropK dropR
  rw [List.getElem?_mapIdx, List.getElem?_map]
  by_cases hi : i < rows.length
  · rw [List.getElem?_eq_getElem hi]
    show some (if i < k then _ else _) = _
    rw [if_pos (by omega)]; rfl
  · rw [List.getElem?_eq_none (by omega)]; rfl
theorem row_at {M : FM} {k : Nat} {l : List Int} (h : M.rows[k]? = some l) : M.row (k : Int) = l := by
  unfold FM.row; rw [if_pos (by omega), List.getD_eq_getElem?_getD]
  have : ((k : Int)).toNat = k := rfl
  rw [this, h]; rfl
theorem leader_at {M : FM} {key v : Int} (h : M.calls key = some v) : M.leader key = v := by unfold FM.leader; rw [h]; rfl
theorem set_same {α : Type} {l : List α} {k : Nat} {x : α} (h : l[k]? = some x) : l.set k x = l := by
  obtain ⟨hk, rfl⟩ := List.getElem?_eq_some_iff.1 h
  exact List.set_getElem_self hk
theorem sl_app {v : Value} {l : List Int} {t : Int} {n : Nat} (h : Hid (l.length = n)) : Sl 3 1 v (0 + n + 1) (encI l ++ [.int .i64 t]) = IsInts v (l ++ [t]) := by
  rw [Nat.zero_add, ← h.out, sl_snoc]
end Go.Proofs.Ytecdkajhcglpdaa
