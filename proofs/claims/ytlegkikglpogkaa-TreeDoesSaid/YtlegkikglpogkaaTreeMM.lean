/-
  Reaching and chains: one reaches another just if it is in the chain of that one; nobody reaches a node twice.
-/
import Derived.Test.YtlegkikglpogkaaTreeM
namespace Go.TreeM
set_option linter.unusedSimpArgs false
set_option linter.unusedVariables false
variable {l : List Nd}

theorem chain_mem_there (hok : Ok l) : ∀ (m : Nat) (b : Int), b.toNat = m → ∀ a ∈ chain l b, there l a = true ∧ a ≤ b := by
  intro m
  induction m using Nat.strongRecOn with
  | _ m ih =>
    intro b hb a ha
    cases hbt : there l b with
    | false => rw [chain_no hbt] at ha; cases ha
    | true =>
      rw [chain_yes hok hbt] at ha
      rcases List.mem_cons.1 ha with rfl | ha
      · exact ⟨hbt, Int.le_refl _⟩
      · split at ha
        · cases ha
        · have h1 := there_iff.1 hbt
          rcases hok.over hbt with h2 | h2
          · rw [h2, chain_neg] at ha; cases ha
          · have := ih (overOf l b).toNat (by omega) _ rfl a ha
            exact ⟨this.1, by omega⟩
theorem chain_there (hok : Ok l) {a b : Int} (h : a ∈ chain l b) : there l a = true := (chain_mem_there hok _ b rfl a h).1
theorem chain_le (hok : Ok l) {a b : Int} (h : a ∈ chain l b) : a ≤ b := (chain_mem_there hok _ b rfl a h).2
theorem chain_nodup (hok : Ok l) : ∀ (m : Nat) (b : Int), b.toNat = m → (chain l b).Nodup := by
  intro m
  induction m using Nat.strongRecOn with
  | _ m ih =>
    intro b hb
    cases hbt : there l b with
    | false => rw [chain_no hbt]; exact List.nodup_nil
    | true =>
      rw [chain_yes hok hbt]
      have h1 := there_iff.1 hbt
      have hlt := hok.over_lt hbt
      refine List.nodup_cons.2 ⟨?_, ?_⟩
      · intro hm
        split at hm
        · cases hm
        · have := chain_le hok hm; omega
      · split
        · exact List.nodup_nil
        · rcases hok.over hbt with h2 | h2
          · rw [h2, chain_neg]; exact List.nodup_nil
          · exact ih (overOf l b).toNat (by omega) _ rfl
theorem path_nodup (hok : Ok l) : ∀ (m : Nat) (b : Int), b.toNat = m → (∀ a ∈ path l b, there l a = true ∧ a ≤ b) ∧ (path l b).Nodup := by
  intro m
  induction m using Nat.strongRecOn with
  | _ m ih =>
    intro b hb
    cases hbt : there l b with
    | false => rw [path_no hbt]; exact ⟨by simp, List.nodup_nil⟩
    | true =>
      rw [path_yes hok hbt]
      have h1 := there_iff.1 hbt
      have hlt := hok.over_lt hbt
      have hrest : (∀ a ∈ path l (overOf l b), there l a = true ∧ a ≤ overOf l b) ∧ (path l (overOf l b)).Nodup := by
        rcases hok.over hbt with h2 | h2
        · rw [h2, path_neg]; exact ⟨by simp, List.nodup_nil⟩
        · exact ih (overOf l b).toNat (by omega) _ rfl
      refine ⟨?_, List.nodup_cons.2 ⟨fun hm => ?_, hrest.2⟩⟩
      · intro a ha
        rcases List.mem_cons.1 ha with rfl | ha
        · exact ⟨hbt, Int.le_refl _⟩
        · have := hrest.1 a ha; exact ⟨this.1, by omega⟩
      · have := (hrest.1 b hm).2; omega
/-- Whose over stands in a chain, uncut: the chain goes on to it. -/
theorem chain_step (hok : Ok l) {k a : Int} (hk : there l k = true) (hov : overOf l k = a) (hc : cutOf l k = false) (ha : there l a = true) : ∀ (m : Nat) (b : Int), b.toNat = m → k ∈ chain l b → a ∈ chain l b := by
  intro m
  induction m using Nat.strongRecOn with
  | _ m ih =>
    intro b hb hm
    have hbt : there l b = true := by
      cases h : there l b with
      | true => rfl
      | false => rw [chain_no h] at hm; cases hm
    rw [chain_yes hok hbt] at hm ⊢
    have h1 := there_iff.1 hbt
    rcases List.mem_cons.1 hm with rfl | hm
    · rw [hc, hov]
      refine List.mem_cons_of_mem _ ?_
      rw [if_neg (by simp), chain_yes hok ha]
      exact List.mem_cons_self
    · split at hm
      · cases hm
      · rename_i hcb
        refine List.mem_cons_of_mem _ ?_
        rw [if_neg hcb]
        rcases hok.over hbt with h2 | h2
        · rw [h2, chain_neg] at hm; cases hm
        · exact ih (overOf l b).toNat (by omega) _ rfl hm
theorem reach_self (hok : Ok l) {a : Int} (ha : there l a = true) : a ∈ reach l a := by rw [reach_yes hok ha]; exact List.mem_cons_self
/-- What is reached is there. -/
theorem reach_chain (hok : Ok l) : ∀ (m : Nat) (a : Int), l.length - a.toNat = m → there l a = true → ∀ b ∈ reach l a, a ∈ chain l b := by
  intro m
  induction m using Nat.strongRecOn with
  | _ m ih =>
    intro a hm ha b hb
    rw [reach_yes hok ha] at hb
    have h1 := there_iff.1 ha
    rcases List.mem_cons.1 hb with rfl | hb
    · rw [chain_yes hok ha]; exact List.mem_cons_self
    · obtain ⟨k, hk, hb⟩ := List.mem_flatMap.1 hb
      obtain ⟨hk1, hk2⟩ := mem_kidsRow.1 hk
      have hlt := hok.over_lt hk1
      have h2 := there_iff.1 hk1
      split at hb
      · cases hb
      · rename_i hc
        have := ih (l.length - k.toNat) (by omega) k rfl hk1 b hb
        exact chain_step hok hk1 hk2 (by simpa using hc) ha _ b rfl this
theorem reach_there (hok : Ok l) {a b : Int} (ha : there l a = true) (h : b ∈ reach l a) : there l b = true := by
  have := reach_chain hok _ a rfl ha b h
  cases hb : there l b with
  | true => rfl
  | false => rw [chain_no hb] at this; cases this
theorem reach_step (hok : Ok l) {b k : Int} (hb : there l b = true) (hc : cutOf l b = false) (hov : overOf l b = k) : ∀ (m : Nat) (a : Int), l.length - a.toNat = m → there l a = true → k ∈ reach l a → b ∈ reach l a := by
  intro m
  induction m using Nat.strongRecOn with
  | _ m ih =>
    intro a hm ha hk
    rw [reach_yes hok ha] at hk ⊢
    have h1 := there_iff.1 ha
    rcases List.mem_cons.1 hk with rfl | hk
    · refine List.mem_cons_of_mem _ (List.mem_flatMap.2 ⟨b, mem_kidsRow.2 ⟨hb, hov⟩, ?_⟩)
      rw [hc, if_neg (by simp)]
      exact reach_self hok hb
    · obtain ⟨j, hj, hk⟩ := List.mem_flatMap.1 hk
      obtain ⟨hj1, hj2⟩ := mem_kidsRow.1 hj
      have hlt := hok.over_lt hj1
      have h2 := there_iff.1 hj1
      refine List.mem_cons_of_mem _ (List.mem_flatMap.2 ⟨j, hj, ?_⟩)
      split at hk
      · cases hk
      · rename_i hcj
        rw [if_neg hcj]
        exact ih (l.length - j.toNat) (by omega) j rfl hj1 hk
theorem chain_reach (hok : Ok l) {a : Int} (ha : there l a = true) : ∀ (m : Nat) (b : Int), b.toNat = m → a ∈ chain l b → b ∈ reach l a := by
  intro m
  induction m using Nat.strongRecOn with
  | _ m ih =>
    intro b hb hm
    have hbt : there l b = true := by
      cases h : there l b with
      | true => rfl
      | false => rw [chain_no h] at hm; cases hm
    rw [chain_yes hok hbt] at hm
    have h1 := there_iff.1 hbt
    rcases List.mem_cons.1 hm with rfl | hm
    · exact reach_self hok hbt
    · split at hm
      · cases hm
      · rename_i hc
        rcases hok.over hbt with h2 | h2
        · rw [h2, chain_neg] at hm; cases hm
        · have := ih (overOf l b).toNat (by omega) _ rfl hm
          exact reach_step hok hbt (by simpa using hc) rfl _ a rfl ha this
theorem mem_reach_iff (hok : Ok l) {a b : Int} (ha : there l a = true) : b ∈ reach l a ↔ a ∈ chain l b :=
  ⟨reach_chain hok _ a rfl ha b, chain_reach hok ha _ b rfl⟩
/-- Of two in a chain the lesser stands in the chain of the other's over. -/
theorem chain_two (hok : Ok l) {j k : Int} (hjk : j < k) : ∀ (m : Nat) (b : Int), b.toNat = m → j ∈ chain l b → k ∈ chain l b → j ∈ chain l (overOf l k) := by
  intro m
  induction m using Nat.strongRecOn with
  | _ m ih =>
    intro b hb hj hk
    have hbt : there l b = true := by
      cases h : there l b with
      | true => rfl
      | false => rw [chain_no h] at hj; cases hj
    rw [chain_yes hok hbt] at hj hk
    have h1 := there_iff.1 hbt
    rcases List.mem_cons.1 hj with rfl | hj
    · -- j = b is the greatest
      rcases List.mem_cons.1 hk with rfl | hk
      · omega
      · split at hk
        · cases hk
        · have := chain_le hok hk
          have := hok.over_lt hbt
          omega
    · split at hj
      · cases hj
      · rename_i hc
        rw [if_neg hc] at hk
        rcases List.mem_cons.1 hk with rfl | hk
        · exact hj
        · rcases hok.over hbt with h2 | h2
          · rw [h2, chain_neg] at hj; cases hj
          · exact ih (overOf l b).toNat (by omega) _ rfl hj hk
theorem flatMap_nodup {α β : Type} {f : α → List β} : ∀ {ks : List α}, ks.Nodup → (∀ k ∈ ks, (f k).Nodup) → (∀ j ∈ ks, ∀ k ∈ ks, ∀ b, b ∈ f j → b ∈ f k → j = k) → (ks.flatMap f).Nodup := by
  intro ks
  induction ks with
  | nil => intro _ _ _; exact List.nodup_nil
  | cons k ks ih =>
    intro h1 h2 h3
    rw [List.flatMap_cons]
    have hn := List.nodup_cons.1 h1
    refine List.nodup_append.2 ⟨h2 k List.mem_cons_self, ih hn.2 (fun j hj => h2 j (List.mem_cons_of_mem _ hj)) (fun i hi j hj => h3 i (List.mem_cons_of_mem _ hi) j (List.mem_cons_of_mem _ hj)), ?_⟩
    intro b hb c hc e
    subst e
    obtain ⟨j, hj, hbj⟩ := List.mem_flatMap.1 hc
    have := h3 k List.mem_cons_self j (List.mem_cons_of_mem _ hj) b hb hbj
    subst this
    exact hn.1 hj
theorem reach_nodup (hok : Ok l) : ∀ (m : Nat) (a : Int), l.length - a.toNat = m → there l a = true → (reach l a).Nodup := by
  intro m
  induction m using Nat.strongRecOn with
  | _ m ih =>
    intro a hm ha
    rw [reach_yes hok ha]
    have h1 := there_iff.1 ha
    refine List.nodup_cons.2 ⟨?_, flatMap_nodup (kidsRow_nodup l a) ?_ ?_⟩
    · intro h
      obtain ⟨k, hk, h⟩ := List.mem_flatMap.1 h
      obtain ⟨hk1, hk2⟩ := mem_kidsRow.1 hk
      split at h
      · cases h
      · have h3 := chain_le hok (reach_chain hok _ k rfl hk1 a h)
        have := hok.over_lt hk1
        omega
    · intro k hk
      obtain ⟨hk1, hk2⟩ := mem_kidsRow.1 hk
      have := hok.over_lt hk1
      have h2 := there_iff.1 hk1
      split
      · exact List.nodup_nil
      · exact ih (l.length - k.toNat) (by omega) k rfl hk1
    · intro j hj k hk b hbj hbk
      obtain ⟨hj1, hj2⟩ := mem_kidsRow.1 hj
      obtain ⟨hk1, hk2⟩ := mem_kidsRow.1 hk
      split at hbj
      · cases hbj
      · split at hbk
        · cases hbk
        · have c1 := reach_chain hok _ j rfl hj1 b hbj
          have c2 := reach_chain hok _ k rfl hk1 b hbk
          have o1 := hok.over_lt hj1
          have o2 := hok.over_lt hk1
          rcases Int.lt_trichotomy j k with h | h | h
          · have := chain_le hok (chain_two hok h _ b rfl c1 c2); omega
          · exact h
          · have := chain_le hok (chain_two hok h _ b rfl c2 c1); omega
/-- A chain of one in a chain is its end. -/
theorem chain_trans (hok : Ok l) {a b : Int} (hab : a ∈ chain l b) : ∀ (m : Nat) (n : Int), n.toNat = m → b ∈ chain l n → a ∈ chain l n := by
  intro m
  induction m using Nat.strongRecOn with
  | _ m ih =>
    intro n hn hb
    have hnt : there l n = true := by
      cases h : there l n with
      | true => rfl
      | false => rw [chain_no h] at hb; cases hb
    have hb' := hb
    rw [chain_yes hok hnt] at hb ⊢
    have h1 := there_iff.1 hnt
    rcases List.mem_cons.1 hb with rfl | hb
    · rw [chain_yes hok hnt] at hab; exact hab
    · split at hb
      · cases hb
      · rename_i hc
        refine List.mem_cons_of_mem _ ?_
        rw [if_neg hc]
        rcases hok.over hnt with h2 | h2
        · rw [h2, chain_neg] at hb; cases hb
        · exact ih (overOf l n).toNat (by omega) _ rfl hb
theorem reach_trans (hok : Ok l) {a b n : Int} (ha : there l a = true) (h1 : b ∈ reach l a) (h2 : n ∈ reach l b) : n ∈ reach l a := by
  have hb := reach_there hok ha h1
  exact (mem_reach_iff hok ha).2 (chain_trans hok ((mem_reach_iff hok ha).1 h1) _ n rfl ((mem_reach_iff hok hb).1 h2))
theorem count_mem {xs : List Int} (h : xs.Nodup) (b : Int) : xs.count b = if b ∈ xs then 1 else 0 := List.Nodup.count h
/-- TreeReaches. -/
theorem reaches_law (hok : Ok l) {a b : Int} (ha : there l a = true) (hb : there l b = true) :
    (reach l a).count b ≤ 1 ∧ ((reach l a).count b = 1 ↔ (chain l b).count a = 1) ∧ (chain l b).count a ≤ 1 ∧ (∃ t, reach l a = a :: t) ∧ ((reach l a).count b = 1 → ∀ n ∈ reach l b, (reach l a).count n = 1) := by
  have hn := reach_nodup hok _ a rfl ha
  have hc := chain_nodup hok _ b rfl
  refine ⟨?_, ?_, ?_, ⟨_, reach_yes hok ha⟩, ?_⟩
  · rw [count_mem hn]; split <;> omega
  · rw [count_mem hn, count_mem hc]
    have := mem_reach_iff hok (b := b) ha
    by_cases h : b ∈ reach l a
    · rw [if_pos h, if_pos (this.1 h)]
    · rw [if_neg h, if_neg (fun x => h (this.2 x))]
  · rw [count_mem hc]; split <;> omega
  · intro h n hnb
    rw [count_mem hn] at h ⊢
    have h1 : b ∈ reach l a := by
      by_cases h1 : b ∈ reach l a
      · exact h1
      · rw [if_neg h1] at h; cases h
    rw [if_pos (reach_trans hok ha h1 hnb)]
/-- A chain is how a path begins. -/
theorem chain_prefix (hok : Ok l) : ∀ (m : Nat) (n : Int), n.toNat = m → ∃ t, path l n = chain l n ++ t ∧ (∀ (i : Nat) (k : Int), (chain l n)[i]? = some k → (cutOf l k = true → i + 1 = (chain l n).length)) ∧ (t = [] ∨ ∃ k, (chain l n).getLast? = some k ∧ cutOf l k = true) := by
  intro m
  induction m using Nat.strongRecOn with
  | _ m ih =>
    intro n hn
    cases hnt : there l n with
    | false => rw [path_no hnt, chain_no hnt]; exact ⟨[], rfl, by simp, .inl rfl⟩
    | true =>
      rw [path_yes hok hnt, chain_yes hok hnt]
      have h1 := there_iff.1 hnt
      cases hc : cutOf l n with
      | true =>
        refine ⟨path l (overOf l n), by simp, ?_, .inr ⟨n, by simp, hc⟩⟩
        intro i k hi _
        cases i with
        | zero => simp
        | succ i => simp at hi
      | false =>
        have hrest : ∃ t, path l (overOf l n) = chain l (overOf l n) ++ t ∧ (∀ (i : Nat) (k : Int), (chain l (overOf l n))[i]? = some k → (cutOf l k = true → i + 1 = (chain l (overOf l n)).length)) ∧ (t = [] ∨ ∃ k, (chain l (overOf l n)).getLast? = some k ∧ cutOf l k = true) := by
          rcases hok.over hnt with h2 | h2
          · rw [h2, path_neg, chain_neg]; exact ⟨[], rfl, by simp, .inl rfl⟩
          · exact ih (overOf l n).toNat (by omega) _ rfl
        obtain ⟨t, e1, e2, e3⟩ := hrest
        refine ⟨t, by rw [e1]; simp, ?_, ?_⟩
        · intro i k hi hk
          cases i with
          | zero => simp at hi; subst hi; rw [hc] at hk; cases hk
          | succ i =>
            simp at hi ⊢
            have := e2 i k hi hk
            omega
        · rcases e3 with rfl | ⟨k, h3, h4⟩
          · exact .inl rfl
          · refine .inr ⟨k, ?_, h4⟩
            simp only [Bool.false_eq_true, if_false]
            cases hch : chain l (overOf l n) with
            | nil => rw [hch] at h3; cases h3
            | cons x xs => rw [hch] at h3; rw [List.getLast?_cons_cons]; exact h3
/-- What stands next in a path is who stands over. -/
theorem path_over (hok : Ok l) : ∀ (m : Nat) (n : Int), n.toNat = m → ∀ (i : Nat) (k : Int), (path l n)[i]? = some k → there l k = true ∧ overOf l k = ((path l n)[i + 1]?).getD (-1) := by
  intro m
  induction m using Nat.strongRecOn with
  | _ m ih =>
    intro n hn i k hi
    cases hnt : there l n with
    | false => rw [path_no hnt] at hi; simp at hi
    | true =>
      have h1 := there_iff.1 hnt
      rw [path_yes hok hnt] at hi ⊢
      cases i with
      | zero =>
        simp at hi; subst hi
        refine ⟨hnt, ?_⟩
        rw [List.getElem?_cons_succ]
        rcases hok.over hnt with h2 | h2
        · rw [h2, path_neg]; rfl
        · have ht : there l (overOf l n) = true := there_iff.2 ⟨h2.1, by omega⟩
          rw [path_yes hok ht]; rfl
      | succ i =>
        rw [List.getElem?_cons_succ] at hi
        rw [List.getElem?_cons_succ]
        rcases hok.over hnt with h2 | h2
        · rw [h2, path_neg] at hi; simp at hi
        · exact ih (overOf l n).toNat (by omega) _ rfl i k hi
/-- Who stands below one is among its kids, once. -/
theorem kids_once {k n : Int} (hk : there l k = true) (hov : overOf l k = n) (hn : there l n = true) : (kids l n).count k = 1 := by
  unfold kids
  rw [if_pos hn, count_mem (kidsRow_nodup l n), if_pos (mem_kidsRow.2 ⟨hk, hov⟩)]
end Go.TreeM
