/-
  The reference's list of calls, and what it has to do with the model.
-/
import Derived.Test.YtecdkajhcglpdaaFlOneM
namespace Go.Proofs.Ytecdkajhcglpdaa
set_option linter.unusedSimpArgs false
set_option linter.unusedVariables false
open Go.RowKit Go.Sep Go.RingM

structure CallV where
  of : Int
  key : Int
  gone : Bool
  joined : List Int
def ofI (cs : List CallV) (k : Int) : Int := match cs.findIdx? (fun c => decide (c.key = k) && !c.gone) with | some i => i | none => -1
def ledI (cs : List CallV) (t : Int) : Int := match cs.findIdx? (fun c => decide (c.of = t)) with | some i => i | none => -1
def joinsC (cs : List CallV) (t : Int) : Int := match cs.find? (fun c => decide (t ∈ c.joined)) with | some c => c.of | none => -1
structure Rel (M : FM) (cs : List CallV) : Prop where
  one : ∀ (i j : Nat) (c d : CallV), cs[i]? = some c → cs[j]? = some d → c.of = d.of → i = j
  lead : ∀ (i j : Nat) (c d : CallV), cs[i]? = some c → cs[j]? = some d → c.key = d.key → c.gone = false → d.gone = false → i = j
  keys : ∀ t k, M.keys t = some k ↔ ∃ c ∈ cs, c.of = t ∧ c.key = k
  calls : ∀ k t, M.calls k = some t ↔ ∃ c ∈ cs, c.of = t ∧ c.key = k ∧ c.gone = false
  rows : ∀ c ∈ cs, M.row c.of = c.joined
theorem Rel.new (n : Nat) : Rel ⟨n, List.replicate n [], fun _ => none, fun _ => none⟩ [] :=
  ⟨by simp, by simp, by simp, by simp, by simp⟩
theorem findIdx_cases {α : Type} (l : List α) (p : α → Bool) : (l.findIdx? p = none ∧ ∀ x ∈ l, p x = false) ∨ ∃ (i : Nat) (x : α), l.findIdx? p = some i ∧ l[i]? = some x ∧ p x = true := by
  cases h : l.findIdx? p with
  | none => exact .inl ⟨rfl, fun x hx => by have := List.findIdx?_eq_none_iff.1 h x hx; simpa using this⟩
  | some i =>
    obtain ⟨hi, hp, _⟩ := List.findIdx?_eq_some_iff_getElem.1 h
    exact .inr ⟨i, l[i], rfl, List.getElem?_eq_getElem hi, hp⟩
theorem Rel.of_cases {M : FM} {cs : List CallV} (h : Rel M cs) (k : Int) : (ofI cs k = -1 ∧ M.calls k = none) ∨ ∃ (i : Nat) (c : CallV), ofI cs k = (i : Int) ∧ cs[i]? = some c ∧ c.key = k ∧ c.gone = false ∧ M.calls k = some c.of := by
  unfold ofI
  rcases findIdx_cases cs (fun c => decide (c.key = k) && !c.gone) with ⟨h1, h2⟩ | ⟨i, c, h1, h2, h3⟩
  · rw [h1]
    refine .inl ⟨rfl, ?_⟩
    cases hc : M.calls k with
    | none => rfl
    | some t =>
      obtain ⟨c, hm, _, hk, hg⟩ := (h.calls k t).1 hc
      have := h2 c hm
      simp [hk, hg] at this
  · rw [h1]
    simp only [Bool.and_eq_true, decide_eq_true_eq, Bool.not_eq_true'] at h3
    exact .inr ⟨i, c, rfl, h2, h3.1, h3.2, (h.calls k c.of).2 ⟨c, List.mem_of_getElem? h2, rfl, h3.1, h3.2⟩⟩
theorem Rel.led_cases {M : FM} {cs : List CallV} (h : Rel M cs) (t : Int) : (ledI cs t = -1 ∧ M.keys t = none) ∨ ∃ (i : Nat) (c : CallV), ledI cs t = (i : Int) ∧ cs[i]? = some c ∧ c.of = t ∧ M.keys t = some c.key := by
  unfold ledI
  rcases findIdx_cases cs (fun c => decide (c.of = t)) with ⟨h1, h2⟩ | ⟨i, c, h1, h2, h3⟩
  · rw [h1]
    refine .inl ⟨rfl, ?_⟩
    cases hc : M.keys t with
    | none => rfl
    | some k =>
      obtain ⟨c, hm, ht, _⟩ := (h.keys t k).1 hc
      have := h2 c hm
      simp [ht] at this
  · rw [h1]
    have h3 : c.of = t := of_decide_eq_true h3
    exact .inr ⟨i, c, rfl, h2, h3, (h.keys t c.key).2 ⟨c, List.mem_of_getElem? h2, h3, rfl⟩⟩
theorem set_cases {α : Type} {l : List α} {i j : Nat} {x y : α} (h : (l.set i x)[j]? = some y) : (j = i ∧ y = x) ∨ (¬ j = i ∧ l[j]? = some y) := by
  rw [List.getElem?_set] at h
  by_cases hij : i = j
  · subst hij
    rw [if_pos rfl] at h
    split at h
    · exact .inl ⟨rfl, (Option.some.inj h).symm⟩
    · cases h
  · rw [if_neg hij] at h; exact .inr ⟨fun e => hij e.symm, h⟩
/-- One call is told otherwise; leader and key stay. -/
theorem set_mem {cs : List CallV} {i : Nat} {c c' : CallV} (hc : cs[i]? = some c) (x : CallV) : x ∈ cs.set i c' ↔ x = c' ∨ ∃ j, ¬ j = i ∧ cs[j]? = some x := by
  have hi := (List.getElem?_eq_some_iff.1 hc).1
  constructor
  · intro h
    obtain ⟨j, hj⟩ := List.mem_iff_getElem?.1 h
    rcases set_cases hj with ⟨_, h2⟩ | ⟨h1, h2⟩
    · exact .inl h2
    · exact .inr ⟨j, h1, h2⟩
  · rintro (rfl | ⟨j, h1, h2⟩)
    · exact List.mem_iff_getElem?.2 ⟨i, List.getElem?_set_self hi⟩
    · exact List.mem_iff_getElem?.2 ⟨j, by rw [List.getElem?_set_ne (fun e => h1 e.symm)]; exact h2⟩
theorem Rel.forget {M : FM} {cs : List CallV} (h : Rel M cs) {i : Nat} {c : CallV} (hc : cs[i]? = some c) (hg : c.gone = false) : Rel (M.forget c.key).2 (cs.set i { c with gone := true }) := by
  have hcm := List.mem_of_getElem? hc
  refine ⟨?_, ?_, ?_, ?_, ?_⟩
  · intro a b x y hx hy he
    rcases set_cases hx with ⟨rfl, rfl⟩ | ⟨h1, h2⟩ <;> rcases set_cases hy with ⟨rfl, rfl⟩ | ⟨h3, h4⟩
    · rfl
    · exact h.one _ _ _ _ hc h4 he
    · exact h.one _ _ _ _ h2 hc he
    · exact h.one _ _ _ _ h2 h4 he
  · intro a b x y hx hy he hgx hgy
    rcases set_cases hx with ⟨rfl, rfl⟩ | ⟨h1, h2⟩ <;> rcases set_cases hy with ⟨rfl, rfl⟩ | ⟨h3, h4⟩
    · rfl
    · cases hgx
    · cases hgy
    · exact h.lead _ _ _ _ h2 h4 he hgx hgy
  · intro t k
    show M.keys t = some k ↔ _
    rw [h.keys]
    constructor
    · rintro ⟨x, hx, h1, h2⟩
      obtain ⟨j, hj⟩ := List.mem_iff_getElem?.1 hx
      by_cases hji : j = i
      · subst hji; rw [hc] at hj; cases hj
        exact ⟨_, (set_mem hc _).2 (.inl rfl), h1, h2⟩
      · exact ⟨x, (set_mem hc x).2 (.inr ⟨j, hji, hj⟩), h1, h2⟩
    · rintro ⟨x, hx, h1, h2⟩
      rcases (set_mem hc x).1 hx with rfl | ⟨j, _, hj⟩
      · exact ⟨c, hcm, h1, h2⟩
      · exact ⟨x, List.mem_of_getElem? hj, h1, h2⟩
  · intro k t
    show setI M.calls c.key none k = some t ↔ _
    unfold setI
    by_cases hk : k = c.key
    · subst hk
      rw [if_pos rfl]
      constructor
      · intro h; cases h
      · rintro ⟨x, hx, h1, h2, h3⟩
        rcases (set_mem hc x).1 hx with rfl | ⟨j, hj, hjx⟩
        · cases h3
        · exact absurd (h.lead _ _ _ _ hjx hc h2 h3 hg) hj
    · rw [if_neg hk, h.calls]
      constructor
      · rintro ⟨x, hx, h1, h2, h3⟩
        obtain ⟨j, hj⟩ := List.mem_iff_getElem?.1 hx
        refine ⟨x, (set_mem hc x).2 (.inr ⟨j, fun e => ?_, hj⟩), h1, h2, h3⟩
        subst e; rw [hc] at hj; cases hj; exact hk h2.symm
      · rintro ⟨x, hx, h1, h2, h3⟩
        rcases (set_mem hc x).1 hx with rfl | ⟨j, hj, hjx⟩
        · cases h3
        · exact ⟨x, List.mem_of_getElem? hjx, h1, h2, h3⟩
  · intro x hx
    show M.row x.of = x.joined
    rcases (set_mem hc x).1 hx with rfl | ⟨j, hj, hjx⟩
    · exact h.rows c hcm
    · exact h.rows x (List.mem_of_getElem? hjx)
theorem row_nil {M : FM} (h : M.Ok) {t : Int} (hk : M.keys t = none) : M.row t = [] := by
  unfold FM.row
  split
  · rename_i h0
    rw [List.getD_eq_getElem?_getD]
    cases hg : M.rows[t.toNat]? with
    | none => rfl
    | some l =>
      cases l with
      | nil => rfl
      | cons a b =>
        have := h.row _ _ hg (by simp)
        have e : ((t.toNat : Nat) : Int) = t := by omega
        rw [e, hk] at this; cases this
  · rfl
/-- Who joined is in the row of a call that is there. -/
theorem Rel.joins {M : FM} {cs : List CallV} (h : Rel M cs) (hok : M.Ok) (hro : RowsOk M.n M.rows) (t : Int) : joinsC cs t = rowOf M.rows t := by
  unfold joinsC
  cases hf : cs.find? (fun c => decide (t ∈ c.joined)) with
  | none =>
    refine (rowOf_none (fun l hl hm => ?_)).symm
    obtain ⟨r, hr⟩ := List.mem_iff_getElem?.1 hl
    have hk := hok.row r l hr (fun e => by rw [e] at hm; cases hm)
    cases hkk : M.keys (r : Int) with
    | none => rw [hkk] at hk; cases hk
    | some k =>
      obtain ⟨c, hc, hco, _⟩ := (h.keys (r : Int) k).1 hkk
      have h1 := h.rows c hc
      rw [hco, row_at hr] at h1
      have h2 := List.find?_eq_none.1 hf c hc
      rw [← h1] at h2
      simp [hm] at h2
  | some c =>
    have hc := List.mem_of_find?_eq_some hf
    have hp := List.find?_some hf
    have hp : t ∈ c.joined := of_decide_eq_true hp
    have hk := (h.keys c.of c.key).2 ⟨c, hc, rfl, rfl⟩
    have hth := hok.there _ _ hk
    have hrow := h.rows c hc
    rw [← hrow] at hp
    unfold FM.row at hp
    rw [if_pos hth.1, List.getD_eq_getElem?_getD] at hp
    cases hg : M.rows[c.of.toNat]? with
    | none => rw [hg] at hp; cases hp
    | some l =>
      rw [hg] at hp
      have hp : t ∈ l := hp
      by_cases hr : rowOf M.rows t = -1
      · exact absurd hp (rowOf_neg hr l (List.mem_of_getElem? hg))
      · obtain ⟨r, l2, h5, h6, h7⟩ := rowOf_some hr
        have := hro.apart r _ l2 l t h6 hg h7 hp
        show c.of = rowOf M.rows t
        rw [h5, this]; omega
theorem Rel.leave {M : FM} {cs : List CallV} (h : Rel M cs) (t : Int) : Rel (M.leave t).2 (cs.map fun c => { c with joined := without c.joined t }) := by
  refine ⟨?_, ?_, ?_, ?_, ?_⟩
  · intro a b x y hx hy he
    rw [List.getElem?_map] at hx hy
    obtain ⟨x0, hx0, rfl⟩ := Option.map_eq_some_iff.1 hx
    obtain ⟨y0, hy0, rfl⟩ := Option.map_eq_some_iff.1 hy
    exact h.one _ _ _ _ hx0 hy0 he
  · intro a b x y hx hy he hgx hgy
    rw [List.getElem?_map] at hx hy
    obtain ⟨x0, hx0, rfl⟩ := Option.map_eq_some_iff.1 hx
    obtain ⟨y0, hy0, rfl⟩ := Option.map_eq_some_iff.1 hy
    exact h.lead _ _ _ _ hx0 hy0 he hgx hgy
  · intro u k
    show M.keys u = some k ↔ _
    rw [h.keys]
    constructor
    · rintro ⟨x, hx, h1, h2⟩; exact ⟨_, List.mem_map.2 ⟨x, hx, rfl⟩, h1, h2⟩
    · rintro ⟨x, hx, h1, h2⟩
      obtain ⟨x0, hx0, rfl⟩ := List.mem_map.1 hx
      exact ⟨x0, hx0, h1, h2⟩
  · intro k u
    show M.calls k = some u ↔ _
    rw [h.calls]
    constructor
    · rintro ⟨x, hx, h1, h2, h3⟩; exact ⟨_, List.mem_map.2 ⟨x, hx, rfl⟩, h1, h2, h3⟩
    · rintro ⟨x, hx, h1, h2, h3⟩
      obtain ⟨x0, hx0, rfl⟩ := List.mem_map.1 hx
      exact ⟨x0, hx0, h1, h2, h3⟩
  · intro x hx
    obtain ⟨x0, hx0, rfl⟩ := List.mem_map.1 hx
    have := h.rows x0 hx0
    show FM.row ⟨M.n, dropR M.rows t, M.calls, M.keys⟩ x0.of = without x0.joined t
    rw [← this]
    unfold FM.row
    split
    · unfold dropR
      rw [List.getD_eq_getElem?_getD, List.getD_eq_getElem?_getD, List.getElem?_map]
      cases M.rows[x0.of.toNat]? with
      | none => simp [without]
      | some l => rfl
    · simp [without]
theorem Rel.push {M : FM} {cs : List CallV} (h : Rel M cs) (hok : M.Ok) {t key : Int} (hk : M.keys t = none) (hc : M.calls key = none) : Rel ⟨M.n, M.rows, setI M.calls key (some t), setI M.keys t (some key)⟩ (cs ++ [⟨t, key, false, []⟩]) := by
  have hnot : ∀ c ∈ cs, ¬ c.of = t := fun c hc2 e => by
    have := (h.keys t c.key).2 ⟨c, hc2, e, rfl⟩
    rw [hk] at this; cases this
  have hnok : ∀ c ∈ cs, c.gone = false → ¬ c.key = key := fun c hc2 hg e => by
    have := (h.calls key c.of).2 ⟨c, hc2, rfl, e, hg⟩
    rw [hc] at this; cases this
  have hcase : ∀ (i : Nat) (c : CallV), (cs ++ [⟨t, key, false, []⟩])[i]? = some c → cs[i]? = some c ∨ (i = cs.length ∧ c = ⟨t, key, false, []⟩) := by
    intro i c hi
    rw [List.getElem?_append] at hi
    split at hi
    · exact .inl hi
    · rename_i hlt
      have : i - cs.length = 0 := by
        have := (List.getElem?_eq_some_iff.1 hi).1
        simp at this; omega
      rw [this] at hi
      cases hi
      exact .inr ⟨by omega, rfl⟩
  refine ⟨?_, ?_, ?_, ?_, ?_⟩
  · intro a b x y hx hy he
    rcases hcase _ _ hx with h1 | ⟨rfl, rfl⟩ <;> rcases hcase _ _ hy with h2 | ⟨rfl, rfl⟩
    · exact h.one _ _ _ _ h1 h2 he
    · exact absurd he (hnot x (List.mem_of_getElem? h1))
    · exact absurd he.symm (hnot y (List.mem_of_getElem? h2))
    · rfl
  · intro a b x y hx hy he hgx hgy
    rcases hcase _ _ hx with h1 | ⟨rfl, rfl⟩ <;> rcases hcase _ _ hy with h2 | ⟨rfl, rfl⟩
    · exact h.lead _ _ _ _ h1 h2 he hgx hgy
    · exact absurd he (hnok x (List.mem_of_getElem? h1) hgx)
    · exact absurd he.symm (hnok y (List.mem_of_getElem? h2) hgy)
    · rfl
  · intro u k
    show setI M.keys t (some key) u = some k ↔ _
    unfold setI
    by_cases hu : u = t
    · subst hu
      rw [if_pos rfl]
      constructor
      · intro e; cases e; exact ⟨_, List.mem_append.2 (.inr (List.mem_singleton.2 rfl)), rfl, rfl⟩
      · rintro ⟨x, hx, h1, h2⟩
        rcases List.mem_append.1 hx with hx | hx
        · exact absurd h1 (hnot x hx)
        · rw [List.mem_singleton.1 hx] at h2; rw [← h2]
    · rw [if_neg hu, h.keys]
      constructor
      · rintro ⟨x, hx, h1, h2⟩; exact ⟨x, List.mem_append.2 (.inl hx), h1, h2⟩
      · rintro ⟨x, hx, h1, h2⟩
        rcases List.mem_append.1 hx with hx | hx
        · exact ⟨x, hx, h1, h2⟩
        · rw [List.mem_singleton.1 hx] at h1; exact absurd h1.symm hu
  · intro k u
    show setI M.calls key (some t) k = some u ↔ _
    unfold setI
    by_cases hkk : k = key
    · subst hkk
      rw [if_pos rfl]
      constructor
      · intro e; cases e; exact ⟨_, List.mem_append.2 (.inr (List.mem_singleton.2 rfl)), rfl, rfl, rfl⟩
      · rintro ⟨x, hx, h1, h2, h3⟩
        rcases List.mem_append.1 hx with hx | hx
        · exact absurd h2 (hnok x hx h3)
        · rw [List.mem_singleton.1 hx] at h1; rw [← h1]
    · rw [if_neg hkk, h.calls]
      constructor
      · rintro ⟨x, hx, h1, h2, h3⟩; exact ⟨x, List.mem_append.2 (.inl hx), h1, h2, h3⟩
      · rintro ⟨x, hx, h1, h2, h3⟩
        rcases List.mem_append.1 hx with hx | hx
        · exact ⟨x, hx, h1, h2, h3⟩
        · rw [List.mem_singleton.1 hx] at h2; exact absurd h2.symm hkk
  · intro x hx
    show M.row x.of = x.joined
    rcases List.mem_append.1 hx with hx | hx
    · exact h.rows x hx
    · rw [List.mem_singleton.1 hx]; exact row_nil hok hk
theorem Rel.join {M : FM} {cs : List CallV} (h : Rel M cs) (hok : M.Ok) {i u : Nat} {c : CallV} {l : List Int} {t : Int} (hc : cs[i]? = some c) (hu : c.of = (u : Int)) (hl : M.rows[u]? = some l) : Rel ⟨M.n, M.rows.set u (l ++ [t]), M.calls, M.keys⟩ (cs.set i { c with joined := c.joined ++ [t] }) := by
  have hcm := List.mem_of_getElem? hc
  have hlj : l = c.joined := by rw [← h.rows c hcm, hu, row_at hl]
  refine ⟨?_, ?_, ?_, ?_, ?_⟩
  · intro a b x y hx hy he
    rcases set_cases hx with ⟨rfl, rfl⟩ | ⟨h1, h2⟩ <;> rcases set_cases hy with ⟨rfl, rfl⟩ | ⟨h3, h4⟩
    · rfl
    · exact h.one _ _ _ _ hc h4 he
    · exact h.one _ _ _ _ h2 hc he
    · exact h.one _ _ _ _ h2 h4 he
  · intro a b x y hx hy he hgx hgy
    rcases set_cases hx with ⟨rfl, rfl⟩ | ⟨h1, h2⟩ <;> rcases set_cases hy with ⟨rfl, rfl⟩ | ⟨h3, h4⟩
    · rfl
    · exact h.lead _ _ _ _ hc h4 he hgx hgy
    · exact h.lead _ _ _ _ h2 hc he hgx hgy
    · exact h.lead _ _ _ _ h2 h4 he hgx hgy
  · intro v k
    show M.keys v = some k ↔ _
    rw [h.keys]
    constructor
    · rintro ⟨x, hx, h1, h2⟩
      obtain ⟨j, hj⟩ := List.mem_iff_getElem?.1 hx
      by_cases hji : j = i
      · subst hji; rw [hc] at hj; cases hj
        exact ⟨_, (set_mem hc _).2 (.inl rfl), h1, h2⟩
      · exact ⟨x, (set_mem hc x).2 (.inr ⟨j, hji, hj⟩), h1, h2⟩
    · rintro ⟨x, hx, h1, h2⟩
      rcases (set_mem hc x).1 hx with rfl | ⟨j, _, hj⟩
      · exact ⟨c, hcm, h1, h2⟩
      · exact ⟨x, List.mem_of_getElem? hj, h1, h2⟩
  · intro k v
    show M.calls k = some v ↔ _
    rw [h.calls]
    constructor
    · rintro ⟨x, hx, h1, h2, h3⟩
      obtain ⟨j, hj⟩ := List.mem_iff_getElem?.1 hx
      by_cases hji : j = i
      · subst hji; rw [hc] at hj; cases hj
        exact ⟨_, (set_mem hc _).2 (.inl rfl), h1, h2, h3⟩
      · exact ⟨x, (set_mem hc x).2 (.inr ⟨j, hji, hj⟩), h1, h2, h3⟩
    · rintro ⟨x, hx, h1, h2, h3⟩
      rcases (set_mem hc x).1 hx with rfl | ⟨j, _, hj⟩
      · exact ⟨c, hcm, h1, h2, h3⟩
      · exact ⟨x, List.mem_of_getElem? hj, h1, h2, h3⟩
  · intro x hx
    rcases (set_mem hc x).1 hx with rfl | ⟨j, hj, hjx⟩
    · show FM.row ⟨M.n, M.rows.set u (l ++ [t]), M.calls, M.keys⟩ c.of = c.joined ++ [t]
      rw [hu, row_at (M := ⟨M.n, M.rows.set u (l ++ [t]), M.calls, M.keys⟩) (List.getElem?_set_self (List.getElem?_eq_some_iff.1 hl).1), hlj]
    · have hne : ¬ x.of = c.of := fun e => hj (h.one _ _ _ _ hjx hc e)
      show FM.row ⟨M.n, M.rows.set u (l ++ [t]), M.calls, M.keys⟩ x.of = x.joined
      rw [← h.rows x (List.mem_of_getElem? hjx)]
      unfold FM.row
      split
      · show (M.rows.set u (l ++ [t])).getD x.of.toNat [] = M.rows.getD x.of.toNat []
        rw [List.getD_eq_getElem?_getD, List.getD_eq_getElem?_getD, List.getElem?_set_ne (by omega)]
      · rfl
theorem erase_at {α : Type} (l : List α) (i j : Nat) : (l.eraseIdx i)[j]? = l[if j < i then j else j + 1]? := by
  rw [List.getElem?_eraseIdx]; split <;> rfl
theorem erase_mem {α : Type} (l : List α) (i : Nat) (x : α) : x ∈ l.eraseIdx i ↔ ∃ j, ¬ j = i ∧ l[j]? = some x := by
  constructor
  · intro h
    obtain ⟨j, hj⟩ := List.mem_iff_getElem?.1 h
    rw [erase_at] at hj
    exact ⟨_, by split <;> omega, hj⟩
  · rintro ⟨j, h1, h2⟩
    by_cases hj : j < i
    · exact List.mem_iff_getElem?.2 ⟨j, by rw [erase_at, if_pos hj]; exact h2⟩
    · refine List.mem_iff_getElem?.2 ⟨j - 1, ?_⟩
      rw [erase_at, if_neg (by omega)]
      have : j - 1 + 1 = j := by omega
      rw [this]; exact h2
theorem Rel.fin {M : FM} {cs : List CallV} (h : Rel M cs) (hok : M.Ok) {i u : Nat} {c : CallV} {calls : Int → Option Int} (hc : cs[i]? = some c) (hu : c.of = (u : Int)) (hcalls : ∀ k, calls k = if M.calls k = some (u : Int) then none else M.calls k) : Rel ⟨M.n, M.rows.set u [], calls, setI M.keys u none⟩ (cs.eraseIdx i) := by
  have hoth : ∀ (j : Nat) x, ¬ j = i → cs[j]? = some x → ¬ x.of = (u : Int) := fun j x hj hx e => hj (h.one _ _ _ _ hx hc (by rw [e, hu]))
  refine ⟨?_, ?_, ?_, ?_, ?_⟩
  · intro a b x y hx hy he
    rw [erase_at] at hx hy
    have := h.one _ _ _ _ hx hy he
    split at this <;> split at this <;> omega
  · intro a b x y hx hy he hgx hgy
    rw [erase_at] at hx hy
    have := h.lead _ _ _ _ hx hy he hgx hgy
    split at this <;> split at this <;> omega
  · intro v k
    show setI M.keys u none v = some k ↔ _
    unfold setI
    by_cases hv : v = (u : Int)
    · rw [if_pos hv]
      constructor
      · intro e; cases e
      · rintro ⟨x, hx, h1, h2⟩
        obtain ⟨j, hj, hjx⟩ := (erase_mem cs i x).1 hx
        exact absurd (h1.trans hv) (hoth j x hj hjx)
    · rw [if_neg hv, h.keys]
      constructor
      · rintro ⟨x, hx, h1, h2⟩
        obtain ⟨j, hj⟩ := List.mem_iff_getElem?.1 hx
        refine ⟨x, (erase_mem cs i x).2 ⟨j, fun e => ?_, hj⟩, h1, h2⟩
        subst e; rw [hc] at hj; cases hj; exact hv (h1.symm.trans hu)
      · rintro ⟨x, hx, h1, h2⟩
        obtain ⟨j, hj, hjx⟩ := (erase_mem cs i x).1 hx
        exact ⟨x, List.mem_of_getElem? hjx, h1, h2⟩
  · intro k v
    show calls k = some v ↔ _
    rw [hcalls]
    constructor
    · intro hv
      split at hv
      · cases hv
      · rename_i hne
        obtain ⟨x, hx, h1, h2, h3⟩ := (h.calls k v).1 hv
        obtain ⟨j, hj⟩ := List.mem_iff_getElem?.1 hx
        refine ⟨x, (erase_mem cs i x).2 ⟨j, fun e => ?_, hj⟩, h1, h2, h3⟩
        subst e; rw [hc] at hj; cases hj
        exact hne (by rw [hv, ← h1, hu])
    · rintro ⟨x, hx, h1, h2, h3⟩
      obtain ⟨j, hj, hjx⟩ := (erase_mem cs i x).1 hx
      have hcv := (h.calls k v).2 ⟨x, List.mem_of_getElem? hjx, h1, h2, h3⟩
      rw [hcv, if_neg]
      intro e
      exact hoth j x hj hjx (h1.trans (Option.some.inj e))
  · intro x hx
    obtain ⟨j, hj, hjx⟩ := (erase_mem cs i x).1 hx
    have hne := hoth j x hj hjx
    show FM.row ⟨M.n, M.rows.set u [], calls, setI M.keys u none⟩ x.of = x.joined
    rw [← h.rows x (List.mem_of_getElem? hjx)]
    unfold FM.row
    split
    · show (M.rows.set u []).getD x.of.toNat [] = M.rows.getD x.of.toNat []
      rw [List.getD_eq_getElem?_getD, List.getD_eq_getElem?_getD, List.getElem?_set_ne (by omega)]
    · rfl
end Go.Proofs.Ytecdkajhcglpdaa
