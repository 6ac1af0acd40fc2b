/-
  Calls that several ask for, as plain data: what the methods answer, and what they leave.
-/
import Derived.Test.YtecdkajhcglpdaaRowsM
import Derived.Test.YtecdkajhcglpdaaMapI
import Derived.Test.YtecdkajhcglpdaaDeed
namespace Go.Proofs.Ytecdkajhcglpdaa
set_option linter.unusedSimpArgs false
set_option linter.unusedVariables false
open Go.RowKit Go.Sep Go.RingM

structure FM where
  n : Nat
  rows : List (List Int)
  calls : Int → Option Int
  keys : Int → Option Int
def FM.row (M : FM) (t : Int) : List Int := if 0 ≤ t then M.rows.getD t.toNat [] else []
def FM.leader (M : FM) (key : Int) : Int := (M.calls key).getD (-1)
def FM.ask (M : FM) (t key : Int) : Int × Int × FM :=
  if ¬ (0 ≤ t ∧ t < M.n) then (-1, 3, M)
  else if ¬ rowOf M.rows t = -1 then (-1, 6, M)
  else if (M.keys t).isSome = true then (-1, 4, M)
  else match M.calls key with
    | some u => (u, 0, { M with rows := putR M.n M.rows u.toNat t })
    | none => (t, 0, { M with calls := setI M.calls key (some t), keys := setI M.keys t (some key) })
def FM.fin (M : FM) (t : Int) : List Int × Int × FM :=
  if ¬ (0 ≤ t ∧ t < M.n) then ([], 3, M)
  else match M.keys t with
    | none => ([], 4, M)
    | some key => (M.row t, 0, { M with keys := setI M.keys t none, calls := if M.leader key = t then setI M.calls key none else M.calls, rows := M.rows.set t.toNat [] })
def FM.forget (M : FM) (key : Int) : Bool × FM := ((M.calls key).isSome, { M with calls := setI M.calls key none })
def FM.leave (M : FM) (t : Int) : Bool × FM := (!decide (rowOf M.rows t = -1), { M with rows := dropR M.rows t })
def FM.act (M : FM) (a : Deed) : Int × Bool × List Int × Int × FM :=
  if a.f0 = 0 then ((M.ask a.f1 a.f2).1, false, [], (M.ask a.f1 a.f2).2.1, (M.ask a.f1 a.f2).2.2)
  else if a.f0 = 1 then (0, false, (M.fin a.f1).1, (M.fin a.f1).2.1, (M.fin a.f1).2.2)
  else if a.f0 = 2 then (0, (M.forget a.f2).1, [], 0, (M.forget a.f2).2)
  else if a.f0 = 3 then (0, (M.leave a.f1).1, [], 0, (M.leave a.f1).2)
  else (0, false, [], 0, M)
/-- What stays true. -/
structure FM.Ok (M : FM) : Prop where
  len : M.rows.length = M.n
  lead : ∀ k t, M.calls k = some t → M.keys t = some k
  there : ∀ t k, M.keys t = some k → 0 ≤ t ∧ t < M.n
  alone : ∀ t k, M.keys t = some k → rowOf M.rows t = -1
  row : ∀ (r : Nat) (l : List Int), M.rows[r]? = some l → l ≠ [] → (M.keys (r : Int)).isSome = true
theorem FM.ok_new (n : Nat) : FM.Ok ⟨n, List.replicate n [], fun _ => none, fun _ => none⟩ :=
  ⟨by simp, by simp, by simp, by simp, fun r l h hl => by
    rw [List.getElem?_replicate] at h
    split at h
    · cases h; exact absurd rfl hl
    · cases h⟩
theorem getD_row {rs : List (List Int)} {r : Nat} {l : List Int} (h : rs[r]? = some l) : rs.getD r [] = l := by rw [List.getD_eq_getElem?_getD, h]; rfl
theorem mem_set {rs : List (List Int)} {r : Nat} {l m : List Int} (h : m ∈ rs.set r l) : m = l ∨ m ∈ rs := by
  rcases List.mem_or_eq_of_mem_set h with h | h
  · exact .inr h
  · exact .inl h
theorem FM.Ok.ask {M : FM} (h : M.Ok) (t key : Int) : (M.ask t key).2.2.Ok := by
  unfold FM.ask
  split
  · exact h
  split
  · exact h
  rename_i h1 h2
  have ht : 0 ≤ t ∧ t < M.n := Classical.not_not.1 h1
  have hr : rowOf M.rows t = -1 := Classical.not_not.1 h2
  split
  · exact h
  rename_i h3
  have hk : M.keys t = none := by
    cases hq : M.keys t with
    | none => rfl
    | some k => rw [hq] at h3; exact absurd rfl h3
  cases hc : M.calls key with
  | some u =>
    have hu := h.lead key u hc
    have hut := h.there u key hu
    have hpe : putE M.n M.rows t = 0 := by unfold putE; rw [if_pos ht, if_pos hr]
    refine ⟨?_, h.lead, h.there, ?_, ?_⟩
    · show (putR M.n M.rows u.toNat t).length = M.n
      unfold putR; rw [if_pos hpe, List.length_set]; exact h.len
    · intro x k hx
      show rowOf (putR M.n M.rows u.toNat t) x = -1
      apply rowOf_none
      intro l hl
      unfold putR at hl
      rw [if_pos hpe] at hl
      have hxr := rowOf_neg (h.alone x k hx)
      have hxt : x ≠ t := fun e => by rw [e, hk] at hx; cases hx
      rcases mem_set hl with rfl | hl
      · intro hm
        rcases List.mem_append.1 hm with hm | hm
        · rw [List.getD_eq_getElem?_getD] at hm
          cases hg : M.rows[u.toNat]? with
          | none => rw [hg] at hm; cases hm
          | some l => rw [hg] at hm; exact hxr l (List.mem_of_getElem? hg) hm
        · exact hxt (List.mem_singleton.1 hm)
      · exact hxr l hl
    · intro r l hl hne
      have hl : (putR M.n M.rows u.toNat t)[r]? = some l := hl
      unfold putR at hl
      rw [if_pos hpe] at hl
      by_cases hru : u.toNat = r
      · subst hru
        have : ((u.toNat : Nat) : Int) = u := by omega
        show (M.keys ((u.toNat : Nat) : Int)).isSome = true
        rw [this, hu]; rfl
      · rw [List.getElem?_set_ne hru] at hl
        exact h.row r l hl hne
  | none =>
    refine ⟨h.len, ?_, ?_, ?_, ?_⟩
    · intro k x hx
      have hx : setI M.calls key (some t) k = some x := hx
      show setI M.keys t (some key) x = some k
      unfold setI at hx ⊢
      split at hx
      · rename_i e; cases hx; rw [if_pos rfl, e]
      · have := h.lead k x hx
        rw [if_neg (fun e => by rw [e, hk] at this; cases this)]; exact this
    · intro x k hx
      have hx : setI M.keys t (some key) x = some k := hx
      unfold setI at hx
      split at hx
      · rename_i e; rw [e]; exact ht
      · exact h.there x k hx
    · intro x k hx
      have hx : setI M.keys t (some key) x = some k := hx
      unfold setI at hx
      split at hx
      · rename_i e; rw [e]; exact hr
      · exact h.alone x k hx
    · intro r l hl hne
      have := h.row r l hl hne
      show (setI M.keys t (some key) (r : Int)).isSome = true
      unfold setI
      split
      · rfl
      · exact this
theorem FM.Ok.fin {M : FM} (h : M.Ok) (t : Int) : (M.fin t).2.2.Ok := by
  unfold FM.fin
  split
  · exact h
  rename_i h1
  have ht : 0 ≤ t ∧ t < M.n := Classical.not_not.1 h1
  cases hk : M.keys t with
  | none => exact h
  | some key =>
    refine ⟨?_, ?_, ?_, ?_, ?_⟩
    · show (M.rows.set t.toNat []).length = M.n
      rw [List.length_set]; exact h.len
    · intro k x hx
      show setI M.keys t none x = some k
      have hx : (if M.leader key = t then setI M.calls key none else M.calls) k = some x := hx
      have hx0 : M.calls k = some x ∧ (M.leader key = t → k ≠ key) := by
        split at hx
        · unfold setI at hx
          split at hx
          · cases hx
          · rename_i _ hne; exact ⟨hx, fun _ => hne⟩
        · rename_i hne; exact ⟨hx, fun e => absurd e hne⟩
      have hl := h.lead k x hx0.1
      unfold setI
      by_cases hxt : x = t
      · exfalso
        subst hxt
        rw [hk] at hl
        cases hl
        exact hx0.2 (by unfold FM.leader; rw [hx0.1]; rfl) rfl
      · rw [if_neg hxt]; exact hl
    · intro x k hx
      have hx : setI M.keys t none x = some k := hx
      unfold setI at hx
      split at hx
      · cases hx
      · exact h.there x k hx
    · intro x k hx
      have hx : setI M.keys t none x = some k := hx
      unfold setI at hx
      split at hx
      · cases hx
      · show rowOf (M.rows.set t.toNat []) x = -1
        apply rowOf_none
        intro l hl
        rcases mem_set hl with rfl | hl
        · simp
        · exact rowOf_neg (h.alone x k hx) l hl
    · intro r l hl hne
      have hl : (M.rows.set t.toNat [])[r]? = some l := hl
      show (setI M.keys t none (r : Int)).isSome = true
      by_cases hrt : t.toNat = r
      · subst hrt
        rw [List.getElem?_set_self (by rw [h.len]; omega)] at hl
        cases hl; exact absurd rfl hne
      · rw [List.getElem?_set_ne hrt] at hl
        unfold setI
        rw [if_neg (by omega)]
        exact h.row r l hl hne
theorem FM.Ok.forget {M : FM} (h : M.Ok) (key : Int) : (M.forget key).2.Ok :=
  ⟨h.len, fun k x hx => by
    have hx : setI M.calls key none k = some x := hx
    unfold setI at hx
    split at hx
    · cases hx
    · exact h.lead k x hx, h.there, h.alone, h.row⟩
theorem FM.Ok.leave {M : FM} (h : M.Ok) (t : Int) : (M.leave t).2.Ok := by
  refine ⟨?_, h.lead, h.there, ?_, ?_⟩
  · show (dropR M.rows t).length = M.n
    unfold dropR; rw [List.length_map]; exact h.len
  · intro x k hx
    show rowOf (dropR M.rows t) x = -1
    apply rowOf_none
    intro l hl
    unfold dropR at hl
    obtain ⟨l0, hl0, rfl⟩ := List.mem_map.1 hl
    intro hm
    unfold without at hm
    exact rowOf_neg (h.alone x k hx) l0 hl0 (List.mem_filter.1 hm).1
  · intro r l hl hne
    have hl : (dropR M.rows t)[r]? = some l := hl
    unfold dropR at hl
    rw [List.getElem?_map] at hl
    cases hg : M.rows[r]? with
    | none => rw [hg] at hl; cases hl
    | some l0 =>
      rw [hg] at hl
      cases hl
      exact h.row r l0 hg (fun e => hne (by rw [e]; rfl))
theorem FM.Ok.act {M : FM} (h : M.Ok) (a : Deed) : (M.act a).2.2.2.2.Ok := by
  unfold FM.act
  repeat' split
  · exact h.ask _ _
  · exact h.fin _
  · exact h.forget _
  · exact h.leave _
  · exact h
theorem act_n (M : FM) (a : Deed) : (M.act a).2.2.2.2.n = M.n := by
  unfold FM.act FM.ask FM.fin FM.forget FM.leave
  repeat' split
  all_goals rfl
theorem FM.Ok.none {M : FM} (h : M.Ok) {t : Int} (ht : ¬ (0 ≤ t ∧ t < M.n)) : M.keys t = none := by
  cases hq : M.keys t with
  | none => rfl
  | some k => exact absurd (h.there t k hq) ht
end Go.Proofs.Ytecdkajhcglpdaa
