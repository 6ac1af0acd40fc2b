/-
  Rows of whole numbers: what an arena of rows answers, told over the numbers that came in.
-/
import Derived.Test.YtcefnihhlbeebaaRingOps
namespace Go.Proofs.Ytcefnihhlbeebaa
set_option linter.unusedSimpArgs false
set_option linter.unusedVariables false
open Go.RowKit Go.Sep Go.RingM

def tn (l : List Int) : List Nat := l.map Int.toNat
abbrev rg (n : Nat) (rs : List (List Int)) : Ring := ⟨n, rs.map tn⟩
/-- The row in which a number stands, or -1. -/
def rowOf (rs : List (List Int)) (x : Int) : Int := match rs.findIdx? (fun l => decide (x ∈ l)) with | some i => i | none => -1
/-- A row without a number. -/
def without (l : List Int) (x : Int) : List Int := l.filter (fun y => !decide (y = x))
def putE (n : Nat) (rs : List (List Int)) (x : Int) : Int := if 0 ≤ x ∧ x < n then (if rowOf rs x = -1 then 0 else 6) else 3
def putR (n : Nat) (rs : List (List Int)) (r : Nat) (x : Int) : List (List Int) := if putE n rs x = 0 then rs.set r (rs.getD r [] ++ [x]) else rs
def dropR (rs : List (List Int)) (x : Int) : List (List Int) := rs.map (without · x)
def takeR (rs : List (List Int)) (r : Nat) : List (List Int) := rs.set r (rs.getD r []).tail

structure RowsOk (n : Nat) (rs : List (List Int)) : Prop where
  pos : ∀ l ∈ rs, ∀ x ∈ l, 0 ≤ x ∧ x < n
  nodup : ∀ l ∈ rs, l.Nodup
  apart : ∀ (r s : Nat) (l m : List Int) (x : Int), rs[r]? = some l → rs[s]? = some m → x ∈ l → x ∈ m → r = s
  n1 : 1 ≤ n
  n2 : n ≤ 1000
  r1 : 1 ≤ rs.length
  r2 : rs.length ≤ 1000

theorem mem_tn {l : List Int} (h : ∀ y ∈ l, 0 ≤ y) {x : Int} (hx : 0 ≤ x) : x.toNat ∈ tn l ↔ x ∈ l := by
  unfold tn
  rw [List.mem_map]
  constructor
  · rintro ⟨y, hy, e⟩
    have := h y hy
    have : y = x := by omega
    exact this ▸ hy
  · exact fun h => ⟨x, h, rfl⟩
theorem tn_ints {l : List Int} (h : ∀ y ∈ l, 0 ≤ y) : (tn l).map (fun (k : Nat) => (k : Int)) = l := by
  unfold tn
  rw [List.map_map]
  conv => rhs; rw [← List.map_id l]
  apply List.map_congr_left
  intro y hy
  have := h y hy
  simp; omega
theorem rowsOk {n : Nat} {rs : List (List Int)} (hp : ∀ l ∈ rs, ∀ x ∈ l, 0 ≤ x) (hW : (rg n rs).Wf) (n1 : 1 ≤ n) (n2 : n ≤ 1000) (r1 : 1 ≤ rs.length) (r2 : rs.length ≤ 1000) : RowsOk n rs := by
  have get : ∀ (r : Nat) (l : List Int), rs[r]? = some l → (rg n rs).rows[r]? = some (tn l) := fun r l h => by simp [rg, h]
  refine ⟨?_, ?_, ?_, n1, n2, r1, r2⟩
  · intro l hl x hx
    obtain ⟨r, hr, rfl⟩ := List.getElem_of_mem hl
    have h0 := hp _ hl x hx
    have := (hW.one r _ (get r _ (List.getElem?_eq_getElem hr))).2 x.toNat ((mem_tn (hp _ hl) h0).2 hx)
    exact ⟨h0, by simp only [rg] at this; omega⟩
  · intro l hl
    obtain ⟨r, hr, rfl⟩ := List.getElem_of_mem hl
    have := (hW.one r _ (get r _ (List.getElem?_eq_getElem hr))).1
    exact List.Pairwise.of_map Int.toNat (fun a b h e => h (by rw [e])) this
  · intro r s l m x hr hs hl hm
    have h0 := hp l (List.mem_of_getElem? hr) x hl
    exact hW.apart r s _ _ x.toNat (get r l hr) (get s m hs) ((mem_tn (hp l (List.mem_of_getElem? hr)) h0).2 hl) ((mem_tn (hp m (List.mem_of_getElem? hs)) h0).2 hm)
theorem RowsOk.p0 {n : Nat} {rs : List (List Int)} (h : RowsOk n rs) : ∀ l ∈ rs, ∀ x ∈ l, 0 ≤ x := fun l hl x hx => (h.pos l hl x hx).1

theorem findIdx?_tn (rs : List (List Int)) (hp : ∀ l ∈ rs, ∀ x ∈ l, 0 ≤ x) {x : Int} (hx : 0 ≤ x) : (rs.map tn).findIdx? (fun l => decide (x.toNat ∈ l)) = rs.findIdx? (fun l => decide (x ∈ l)) := by
  induction rs with
  | nil => rfl
  | cons l rs ih =>
    have h1 := hp l (by simp)
    have e : decide (x.toNat ∈ tn l) = decide (x ∈ l) := by simp only [mem_tn h1 hx]
    simp only [List.map_cons, List.findIdx?_cons, e, ih (fun m hm => hp m (by simp [hm]))]
theorem rowOf_none {rs : List (List Int)} {x : Int} (h : ∀ l ∈ rs, x ∉ l) : rowOf rs x = -1 := by
  unfold rowOf
  rw [List.findIdx?_eq_none_iff.2 (fun l hl => by simpa using h l hl)]
theorem rowOf_neg {rs : List (List Int)} {x : Int} (h : rowOf rs x = -1) : ∀ l ∈ rs, x ∉ l := by
  unfold rowOf at h
  cases hf : rs.findIdx? (fun l => decide (x ∈ l)) with
  | none => intro l hl; have := List.findIdx?_eq_none_iff.1 hf l hl; simpa using this
  | some i => rw [hf] at h; simp only at h; omega
theorem rg_in {n : Nat} {rs : List (List Int)} (h : RowsOk n rs) (x : Int) : (rg n rs).in_ x = rowOf rs x := by
  unfold Ring.in_
  by_cases hx : (rg n rs).isNode x = true
  · rw [if_pos hx]
    simp only [Ring.isNode, Bool.and_eq_true, decide_eq_true_eq] at hx
    unfold Ring.inOf rowOf
    rw [findIdx?_tn rs h.p0 hx.1]
    rfl
  · rw [if_neg hx, rowOf_none]
    intro l hl hm
    apply hx
    have := h.pos l hl x hm
    simp [Ring.isNode, this.1, this.2]
theorem rg_may {n : Nat} {rs : List (List Int)} (h : RowsOk n rs) {r : Nat} (hr : r < rs.length) (x : Int) : (rg n rs).mayE r x = putE n rs x := by
  unfold Ring.mayE putE
  rw [rg_in h]
  have : (rg n rs).isRow r = true := by simp [Ring.isRow, rg, hr]
  rw [this]
  by_cases hx : 0 ≤ x ∧ x < n
  · rw [if_pos hx]; simp [Ring.isNode, hx.1, hx.2]
  · rw [if_neg hx, if_neg]
    simp only [Ring.isNode, Bool.true_and, Bool.and_eq_true, decide_eq_true_eq]
    exact hx
theorem rg_rowOf {n : Nat} {rs : List (List Int)} (r : Int) : (rg n rs).row r = tn (if 0 ≤ r then rs.getD r.toNat [] else []) := by
  unfold Ring.row Ring.isRow
  by_cases h0 : 0 ≤ r
  · by_cases h1 : r < (rg n rs).rows.length
    · have h1' : r.toNat < rs.length := by simp [rg] at h1; omega
      simp only [h0, h1, decide_true, Bool.true_and, if_true, List.getD_eq_getElem?_getD, rg, List.getElem?_map, List.getElem?_eq_getElem h1']
      rfl
    · have h1' : ¬ r.toNat < rs.length := by simp [rg] at h1; omega
      simp only [h0, h1, decide_false, Bool.and_false, if_true, List.getD_eq_getElem?_getD, List.getElem?_eq_none (Nat.le_of_not_lt h1')]
      rfl
  · simp [h0, tn]
theorem rg_row {n : Nat} {rs : List (List Int)} (r : Nat) : (rg n rs).row r = tn (rs.getD r []) := by
  rw [rg_rowOf]; simp
theorem rg_set {n : Nat} {rs : List (List Int)} (r : Nat) (l : List Int) : (rg n rs).setRow r (tn l) = rg n (rs.set r l) := by
  simp [Ring.setRow, rg, List.map_set]
theorem rg_add {n : Nat} {rs : List (List Int)} (h : RowsOk n rs) {r : Nat} (hr : r < rs.length) (x : Int) : (rg n rs).add false r x = rg n (putR n rs r x) := by
  unfold Ring.add putR
  rw [rg_may h hr]
  by_cases hm : putE n rs x = 0
  · rw [if_pos hm, if_pos hm, ← rg_set, rg_row]
    simp [tn]
  · rw [if_neg hm, if_neg hm]
theorem without_none {l : List Int} {x : Int} (h : x ∉ l) : without l x = l := by
  unfold without
  exact List.filter_eq_self.2 (fun y hy => by simpa using fun e : y = x => h (e ▸ hy))
theorem dropR_none {rs : List (List Int)} {x : Int} (h : rowOf rs x = -1) : dropR rs x = rs := by
  unfold dropR
  conv => rhs; rw [← List.map_id rs]
  exact List.map_congr_left (fun l hl => without_none (rowOf_neg h l hl))
theorem tn_without {l : List Int} (h : ∀ y ∈ l, 0 ≤ y) {x : Int} (hx : 0 ≤ x) : (tn l).filter (fun y => decide (y ≠ x.toNat)) = tn (without l x) := by
  unfold tn without
  rw [List.filter_map]
  congr 1
  apply List.filter_congr
  intro y hy
  have := h y hy
  by_cases e : y = x
  · simp [e]
  · have : ¬ y.toNat = x.toNat := by omega
    simp [e, this]
theorem rowOf_some {rs : List (List Int)} {x : Int} (h : ¬ rowOf rs x = -1) : ∃ (r : Nat) (l : List Int), rowOf rs x = r ∧ rs[r]? = some l ∧ x ∈ l := by
  unfold rowOf at h ⊢
  cases hf : rs.findIdx? (fun l => decide (x ∈ l)) with
  | none => rw [hf] at h; exact absurd rfl h
  | some i =>
    obtain ⟨hi, h1, _⟩ := List.findIdx?_eq_some_iff_getElem.1 hf
    exact ⟨i, rs[i], rfl, List.getElem?_eq_getElem hi, by simpa using h1⟩
theorem rg_drop {n : Nat} {rs : List (List Int)} (h : RowsOk n rs) (x : Int) : (rg n rs).drop x = rg n (dropR rs x) := by
  unfold Ring.drop
  rw [rg_in h]
  by_cases hx : rowOf rs x = -1
  · rw [if_pos hx, dropR_none hx]
  · rw [if_neg hx]
    obtain ⟨r, l, e, hr, hxl⟩ := rowOf_some hx
    have hl := List.mem_of_getElem? hr
    have hx0 := (h.pos l hl x hxl).1
    have hg : rs.getD r [] = l := by rw [List.getD_eq_getElem?_getD, hr]; rfl
    rw [e, rg_row, hg, Int.toNat_natCast, tn_without (h.p0 l hl) hx0, rg_set]
    congr 2
    unfold dropR
    apply List.ext_getElem?
    intro s
    rw [List.getElem?_map]
    by_cases es : r = s
    · subst es
      rw [List.getElem?_set_self (List.getElem?_eq_some_iff.1 hr).1, hr]; rfl
    · rw [List.getElem?_set_ne es]
      cases hs : rs[s]? with
      | none => rfl
      | some m =>
        rw [Option.map_some, without_none]
        exact fun hm => es (h.apart r s l m x hr hs hxl hm)
theorem rg_first {n : Nat} {rs : List (List Int)} (h : RowsOk n rs) {r : Nat} (hr : r < rs.length) : (rg n rs).first r = (rs.getD r []).headD (-1) := by
  unfold Ring.first
  rw [rg_row]
  have hg : rs.getD r [] = rs[r] := by simp [List.getD_eq_getElem?_getD, hr]
  rw [hg]
  cases hl : rs[r] with
  | nil => rfl
  | cons x l =>
    have := h.p0 rs[r] (List.getElem_mem hr) x (by rw [hl]; simp)
    simp [tn]; omega
/-- Who comes first, out. -/
theorem rg_take {n : Nat} {rs : List (List Int)} (h : RowsOk n rs) {r : Nat} (hr : r < rs.length) : (!decide (rowOf rs ((rs.getD r []).headD (-1)) = -1)) = !(rs.getD r []).isEmpty ∧ dropR rs ((rs.getD r []).headD (-1)) = takeR rs r := by
  have hg : rs.getD r [] = rs[r] := by simp [List.getD_eq_getElem?_getD, hr]
  unfold takeR
  rw [hg]
  have hmem := List.getElem_mem hr
  have hget : rs[r]? = some rs[r] := List.getElem?_eq_getElem hr
  generalize rs[r] = l at *
  cases l with
  | nil =>
    have hn : rowOf rs (-1) = -1 := rowOf_none (fun m hm hx => by have := h.p0 m hm _ hx; omega)
    refine ⟨by simp [hn], ?_⟩
    show dropR rs (-1) = rs.set r []
    rw [dropR_none hn]
    apply List.ext_getElem?
    intro s
    by_cases es : r = s
    · subst es; rw [List.getElem?_set_self hr, hget]
    · rw [List.getElem?_set_ne es]
  | cons x l =>
    have hx : ¬ rowOf rs x = -1 := fun e => rowOf_neg e _ hmem (by simp)
    refine ⟨by simp [hx], ?_⟩
    show dropR rs x = rs.set r l
    unfold dropR
    apply List.ext_getElem?
    intro s
    rw [List.getElem?_map]
    by_cases es : r = s
    · subst es
      rw [List.getElem?_set_self hr, hget]
      have hnd := h.nodup _ hmem
      have : without l x = l := without_none (List.nodup_cons.1 hnd).1
      unfold without at this ⊢
      simp [this]
    · rw [List.getElem?_set_ne es]
      cases hs : rs[s]? with
      | none => rfl
      | some m =>
        rw [Option.map_some, without_none]
        exact fun hm => es (h.apart r s _ m x hget hs (by simp) hm)
theorem nonneg_put {n : Nat} {rs : List (List Int)} (h : ∀ l ∈ rs, ∀ x ∈ l, 0 ≤ x) (r : Nat) (x : Int) : ∀ l ∈ putR n rs r x, ∀ y ∈ l, 0 ≤ y := by
  unfold putR
  split
  · rename_i hm
    intro l hl y hy
    rcases List.mem_or_eq_of_mem_set hl with hl | rfl
    · exact h l hl y hy
    · rcases List.mem_append.1 hy with hy | hy
      · rw [List.getD_eq_getElem?_getD] at hy
        cases hs : rs[r]? with
        | none => rw [hs] at hy; cases hy
        | some m => rw [hs] at hy; exact h m (List.mem_of_getElem? hs) y hy
      · have : y = x := by simpa using hy
        subst this
        unfold putE at hm
        split at hm
        · rename_i hh; exact hh.1
        · omega
  · exact h
theorem nonneg_drop {rs : List (List Int)} (h : ∀ l ∈ rs, ∀ x ∈ l, 0 ≤ x) (x : Int) : ∀ l ∈ dropR rs x, ∀ y ∈ l, 0 ≤ y := by
  unfold dropR
  intro l hl y hy
  obtain ⟨m, hm, rfl⟩ := List.mem_map.1 hl
  exact h m hm y (List.mem_filter.1 hy).1
theorem nonneg_take {rs : List (List Int)} (h : ∀ l ∈ rs, ∀ x ∈ l, 0 ≤ x) (r : Nat) : ∀ l ∈ takeR rs r, ∀ y ∈ l, 0 ≤ y := by
  unfold takeR
  intro l hl y hy
  rcases List.mem_or_eq_of_mem_set hl with hl | rfl
  · exact h l hl y hy
  · have hy := List.mem_of_mem_tail hy
    rw [List.getD_eq_getElem?_getD] at hy
    cases hs : rs[r]? with
    | none => rw [hs] at hy; cases hy
    | some m => rw [hs] at hy; exact h m (List.mem_of_getElem? hs) y hy

def IsRows (p n : Nat) (rs : List (List Int)) : HProp := fun h => (∀ l ∈ rs, ∀ x ∈ l, 0 ≤ x) ∧ IsRing p (rg n rs) h
theorem IsRows.ring {p n : Nat} {rs : List (List Int)} {e w : World} {X : HProp} (hw : Holds e w [X, IsRows p n rs]) : RowsOk n rs ∧ Holds e w [X, IsRing p (rg n rs)] := by
  have hp : ∀ l ∈ rs, ∀ x ∈ l, 0 ≤ x := hw.fact (i := 1) rfl (fun _ h => h.1)
  have h2 : Holds e w [X, IsRing p (rg n rs)] := hw.imp (i := 1) _ rfl (fun _ h => h.2)
  obtain ⟨_, _, _, hok, _⟩ := IsRing.open_ h2
  exact ⟨rowsOk hp hok.wf hok.n1 hok.n2 (by have := hok.r1; simpa [rg] using this) (by have := hok.r2; simpa [rg] using this), h2⟩
theorem IsRows.of {p n : Nat} {rs : List (List Int)} {e w : World} {X : HProp} (hp : ∀ l ∈ rs, ∀ x ∈ l, 0 ≤ x) (hw : Holds e w [X, IsRing p (rg n rs)]) : Holds e w [X, IsRows p n rs] :=
  hw.imp (i := 1) _ rfl (fun _ h => ⟨hp, h⟩)
theorem rowOf1 (l : List Int) (x : Int) : rowOf [l] x = if x ∈ l then 0 else -1 := by
  unfold rowOf
  by_cases h : x ∈ l <;> simp [List.findIdx?_cons, h]
theorem putE1 (n : Nat) (l : List Int) (x : Int) : putE n [l] x = if 0 ≤ x ∧ x < n then (if x ∈ l then 6 else 0) else 3 := by
  unfold putE
  rw [rowOf1]
  by_cases h : x ∈ l <;> simp [h]
theorem putR1 (n : Nat) (l : List Int) (x : Int) : putR n [l] 0 x = [if putE n [l] x = 0 then l ++ [x] else l] := by
  unfold putR
  by_cases h : putE n [l] x = 0 <;> simp [h]
theorem dropR1 (l : List Int) (x : Int) : dropR [l] x = [without l x] := rfl
theorem takeR1 (l : List Int) : takeR [l] 0 = [l.tail] := rfl
theorem rowOf2 (l m : List Int) (x : Int) : rowOf [l, m] x = if x ∈ l then 0 else if x ∈ m then 1 else -1 := by
  unfold rowOf
  by_cases h : x ∈ l <;> by_cases h2 : x ∈ m <;> simp [List.findIdx?_cons, h, h2]
theorem putE2 (n : Nat) (l m : List Int) (x : Int) : putE n [l, m] x = if 0 ≤ x ∧ x < n then (if x ∈ l ∨ x ∈ m then 6 else 0) else 3 := by
  unfold putE
  rw [rowOf2]
  by_cases h : x ∈ l <;> by_cases h2 : x ∈ m <;> simp [h, h2]
theorem putR20 (n : Nat) (l m : List Int) (x : Int) (h : putE n [l, m] x = 0) : putR n [l, m] 0 x = [l ++ [x], m] := by
  unfold putR; rw [if_pos h]; rfl
theorem putR21 (n : Nat) (l m : List Int) (x : Int) (h : putE n [l, m] x = 0) : putR n [l, m] 1 x = [l, m ++ [x]] := by
  unfold putR; rw [if_pos h]; rfl
theorem dropR2 (l m : List Int) (x : Int) : dropR [l, m] x = [without l x, without m x] := rfl
theorem takeR20 (l m : List Int) : takeR [l, m] 0 = [l.tail, m] := rfl
theorem takeR21 (l m : List Int) : takeR [l, m] 1 = [l, m.tail] := rfl
end Go.Proofs.Ytcefnihhlbeebaa
