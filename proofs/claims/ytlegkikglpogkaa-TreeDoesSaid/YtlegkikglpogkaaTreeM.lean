/-
  A tree as plain data: below whom each node stands, and whether it is cut; what is told of it.
-/
namespace Go.TreeM
set_option linter.unusedSimpArgs false
set_option linter.unusedVariables false

structure Nd where
  over : Int
  cut : Bool
  deriving DecidableEq, Repr

def noNd : Nd := ⟨-1, false⟩
def there (l : List Nd) (n : Int) : Bool := decide (0 ≤ n) && decide (n < l.length)
def at_ (l : List Nd) (n : Int) : Nd := l.getD n.toNat noNd
def overOf (l : List Nd) (n : Int) : Int := if there l n then (at_ l n).over else -1
def cutOf (l : List Nd) (n : Int) : Bool := there l n && (at_ l n).cut
/-- Who stands below n, in the order in which they came. -/
def kidsRow (l : List Nd) (n : Int) : List Int := ((List.range l.length).filter fun i => decide ((l.getD i noNd).over = n)).map fun i : Nat => (i : Int)
def kids (l : List Nd) (n : Int) : List Int := if there l n then kidsRow l n else []
/-- Each stands below one that came earlier, or below none. -/
def Ok (l : List Nd) : Prop := ∀ (i : Nat) (x : Nd), l[i]? = some x → x.over = -1 ∨ (0 ≤ x.over ∧ x.over < i)

theorem there_iff {l : List Nd} {n : Int} : there l n = true ↔ 0 ≤ n ∧ n < l.length := by simp [there]
theorem there_get {l : List Nd} {n : Int} (h : there l n = true) : ∃ (k : Nat) (x : Nd), n = k ∧ k < l.length ∧ l[k]? = some x ∧ at_ l n = x := by
  obtain ⟨h0, h1⟩ := there_iff.1 h
  have hk : n.toNat < l.length := by omega
  exact ⟨n.toNat, l[n.toNat], by omega, hk, List.getElem?_eq_getElem hk, by unfold at_; rw [List.getD_eq_getElem?_getD, List.getElem?_eq_getElem hk]; rfl⟩
theorem get_there {l : List Nd} {k : Nat} {x : Nd} (h : l[k]? = some x) : there l k = true ∧ at_ l k = x ∧ overOf l k = x.over ∧ cutOf l k = x.cut := by
  have hk := (List.getElem?_eq_some_iff.1 h).1
  have h1 : there l k = true := there_iff.2 ⟨by omega, by omega⟩
  have h2 : at_ l k = x := by unfold at_; rw [List.getD_eq_getElem?_getD, Int.toNat_natCast, h]; rfl
  exact ⟨h1, h2, by unfold overOf; rw [h1, h2]; rfl, by unfold cutOf; rw [h1, h2]; rfl⟩
theorem not_there_neg (l : List Nd) {n : Int} (h : n < 0) : there l n = false := by simp [there]; omega
theorem over_neg {l : List Nd} {n : Int} (h : there l n = false) : overOf l n = -1 := by unfold overOf; rw [h]; rfl
theorem cut_neg {l : List Nd} {n : Int} (h : there l n = false) : cutOf l n = false := by unfold cutOf; rw [h]; rfl
theorem Ok.over {l : List Nd} (h : Ok l) {n : Int} (ht : there l n = true) : overOf l n = -1 ∨ (0 ≤ overOf l n ∧ overOf l n < n) := by
  obtain ⟨k, x, rfl, hk, hx, _⟩ := there_get ht
  rw [(get_there hx).2.2.1]
  exact h k x hx
theorem Ok.over_lt {l : List Nd} (h : Ok l) {n : Int} (ht : there l n = true) : overOf l n < n := by
  have := there_iff.1 ht
  rcases h.over ht with h | h <;> omega
theorem Ok.nil : Ok [] := by intro i x h; simp at h
theorem Ok.push {l : List Nd} (h : Ok l) {x : Nd} (hx : x.over = -1 ∨ there l x.over = true) : Ok (l ++ [x]) := by
  intro i y hi
  rw [List.getElem?_append] at hi
  split at hi
  · exact h i y hi
  · rename_i hlt
    have : i - l.length = 0 := by have := (List.getElem?_eq_some_iff.1 hi).1; simp at this; omega
    rw [this] at hi
    cases hi
    rcases hx with h1 | h1
    · exact .inl h1
    · have := there_iff.1 h1
      exact .inr (by omega)
theorem kidsRow_push (l : List Nd) (x : Nd) (n : Int) : kidsRow (l ++ [x]) n = kidsRow l n ++ (if x.over = n then [(l.length : Int)] else []) := by
  unfold kidsRow
  rw [List.length_append, List.length_singleton, List.range_succ, List.filter_append, List.map_append]
  congr 1
  · congr 1
    apply List.filter_congr
    intro i hi
    have hi : i < l.length := List.mem_range.1 hi
    rw [List.getD_eq_getElem?_getD, List.getD_eq_getElem?_getD, List.getElem?_append_left hi]
  · simp only [List.getD_eq_getElem?_getD, List.filter_cons, List.filter_nil, List.getElem?_concat_length]
    by_cases h : x.over = n <;> simp [h]
theorem mem_kidsRow {l : List Nd} {n k : Int} : k ∈ kidsRow l n ↔ there l k = true ∧ overOf l k = n := by
  unfold kidsRow
  rw [List.mem_map]
  constructor
  · rintro ⟨i, hi, rfl⟩
    obtain ⟨h1, h2⟩ := List.mem_filter.1 hi
    have hlt := List.mem_range.1 h1
    have hg := List.getElem?_eq_getElem hlt
    have ht := get_there hg
    rw [List.getD_eq_getElem?_getD, hg] at h2
    exact ⟨ht.1, by rw [ht.2.2.1]; exact of_decide_eq_true h2⟩
  · rintro ⟨h1, h2⟩
    obtain ⟨i, x, rfl, hi, hx, _⟩ := there_get h1
    refine ⟨i, List.mem_filter.2 ⟨List.mem_range.2 hi, ?_⟩, rfl⟩
    rw [(get_there hx).2.2.1] at h2
    rw [List.getD_eq_getElem?_getD, hx]
    simp [h2]
theorem kidsRow_nodup (l : List Nd) (n : Int) : (kidsRow l n).Nodup := by
  unfold kidsRow
  refine List.Pairwise.map _ ?_ (List.Pairwise.filter _ List.nodup_range)
  intro a b h e
  exact h (by omega)
theorem kidsRow_length (l : List Nd) (n : Int) : (kidsRow l n).length ≤ l.length := by
  unfold kidsRow
  rw [List.length_map]
  exact Nat.le_trans (List.length_filter_le _ _) (by simp)

theorem flatMap_same {α β : Type} {f g : α → List β} : ∀ {l : List α}, (∀ x ∈ l, f x = g x) → l.flatMap f = l.flatMap g := by
  intro l
  induction l with
  | nil => intro _; rfl
  | cons a l ih =>
    intro h
    rw [List.flatMap_cons, List.flatMap_cons, h a List.mem_cons_self, ih (fun x hx => h x (List.mem_cons_of_mem _ hx))]
/-- All the way up. -/
def path (l : List Nd) (n : Int) : List Int := if h : there l n = true ∧ 0 ≤ overOf l n ∧ overOf l n < n then n :: path l (overOf l n) else if there l n then [n] else []
termination_by n.toNat
decreasing_by
  obtain ⟨_, h1, h2⟩ := h
  omega
/-- Till one that is cut. -/
def chain (l : List Nd) (n : Int) : List Int := if h : there l n = true ∧ 0 ≤ overOf l n ∧ overOf l n < n then n :: (if cutOf l n then [] else chain l (overOf l n)) else if there l n then [n] else []
termination_by n.toNat
decreasing_by
  obtain ⟨_, h1, h2⟩ := h
  omega
theorem path_no {l : List Nd} {n : Int} (h : there l n = false) : path l n = [] := by unfold path; simp [h]
theorem chain_no {l : List Nd} {n : Int} (h : there l n = false) : chain l n = [] := by unfold chain; simp [h]
theorem path_neg (l : List Nd) : path l (-1) = [] := path_no (not_there_neg l (by omega))
theorem chain_neg (l : List Nd) : chain l (-1) = [] := chain_no (not_there_neg l (by omega))
theorem path_yes {l : List Nd} (hok : Ok l) {n : Int} (h : there l n = true) : path l n = n :: path l (overOf l n) := by
  rcases hok.over h with h1 | h1
  · rw [h1, path_neg]
    conv => lhs; unfold path
    rw [dif_neg (by rw [h1]; omega), if_pos h]
  · conv => lhs; unfold path
    rw [dif_pos ⟨h, h1⟩]
theorem chain_yes {l : List Nd} (hok : Ok l) {n : Int} (h : there l n = true) : chain l n = n :: (if cutOf l n then [] else chain l (overOf l n)) := by
  rcases hok.over h with h1 | h1
  · rw [h1, chain_neg]
    conv => lhs; unfold chain
    rw [dif_neg (by rw [h1]; omega), if_pos h]
    simp
  · conv => lhs; unfold chain
    rw [dif_pos ⟨h, h1⟩]

/-- What a node reaches. -/
def reachF (l : List Nd) : Nat → Int → List Int
  | 0, _ => []
  | f + 1, n => n :: (kidsRow l n).flatMap fun k => if cutOf l k then [] else reachF l f k
def reach (l : List Nd) (n : Int) : List Int := if there l n then reachF l (l.length - n.toNat) n else []
theorem reachF_stable {l : List Nd} (hok : Ok l) : ∀ (f : Nat) (n : Int), there l n = true → l.length - n.toNat ≤ f → reachF l f n = reachF l (l.length - n.toNat) n := by
  intro f
  induction f using Nat.strongRecOn with
  | _ f ih =>
    intro n ht hf
    obtain ⟨h0, h1⟩ := there_iff.1 ht
    obtain ⟨g, rfl⟩ : ∃ g, f = g + 1 := ⟨f - 1, by omega⟩
    obtain ⟨m, hm⟩ : ∃ m, l.length - n.toNat = m + 1 := ⟨l.length - n.toNat - 1, by omega⟩
    rw [hm]
    unfold reachF
    congr 1
    apply flatMap_same
    intro k hk
    obtain ⟨hk1, hk2⟩ := mem_kidsRow.1 hk
    have hlt := hok.over_lt hk1
    obtain ⟨h2, h3⟩ := there_iff.1 hk1
    rw [ih g (by omega) k hk1 (by omega)]
    by_cases hgm : g = m
    · subst hgm; rw [ih g (by omega) k hk1 (by omega)]
    · rw [ih m (by omega) k hk1 (by omega)]
theorem reach_no {l : List Nd} {n : Int} (h : there l n = false) : reach l n = [] := by unfold reach; rw [h]; rfl
theorem reach_yes {l : List Nd} (hok : Ok l) {n : Int} (h : there l n = true) : reach l n = n :: (kidsRow l n).flatMap fun k => if cutOf l k then [] else reach l k := by
  obtain ⟨h0, h1⟩ := there_iff.1 h
  unfold reach
  rw [if_pos h]
  obtain ⟨m, hm⟩ : ∃ m, l.length - n.toNat = m + 1 := ⟨l.length - n.toNat - 1, by omega⟩
  rw [hm]
  show n :: _ = _
  congr 1
  apply flatMap_same
  intro k hk
  obtain ⟨hk1, hk2⟩ := mem_kidsRow.1 hk
  have hlt := hok.over_lt hk1
  obtain ⟨h2, h3⟩ := there_iff.1 hk1
  rw [if_pos hk1, reachF_stable hok m k hk1 (by omega)]

/-! What an act does. -/
structure Tree where
  l : List Nd
  most : Int
def Tree.full (t : Tree) : Bool := decide ((t.l.length : Int) = t.most)
def Tree.put (t : Tree) (x : Nd) : (Int × Int) × Tree := if t.full then ((-1, 2), t) else ((t.l.length, 0), { t with l := t.l ++ [x] })
def Tree.add (t : Tree) (over : Int) (cut : Bool) : (Int × Int) × Tree := if there t.l over then t.put ⟨over, cut⟩ else ((-1, 3), t)
def Tree.Ok (t : Tree) : Prop := TreeM.Ok t.l ∧ (t.l.length : Int) ≤ t.most ∧ t.most ≤ 200
theorem Tree.Ok.put {t : Tree} (h : t.Ok) {x : Nd} (hx : x.over = -1 ∨ there t.l x.over = true) : (t.put x).2.Ok := by
  unfold Tree.put
  split
  · exact h
  · rename_i hf
    unfold Tree.full at hf
    refine ⟨h.1.push hx, ?_, h.2.2⟩
    have := h.2.1
    simp at hf ⊢
    omega
theorem Tree.Ok.add {t : Tree} (h : t.Ok) (over : Int) (cut : Bool) : (t.add over cut).2.Ok := by
  unfold Tree.add
  split
  · rename_i ht; exact h.put (.inr ht)
  · exact h
theorem Tree.Ok.new {n : Int} (h : 1 ≤ n ∧ n ≤ 200) : (Tree.mk [] n).Ok := ⟨.nil, by simp; omega, h.2⟩
end Go.TreeM
