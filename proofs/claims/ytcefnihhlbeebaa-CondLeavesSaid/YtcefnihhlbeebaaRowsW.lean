/-
  The walks of an arena's methods, told over rows of whole numbers.
-/
import Derived.Test.YtcefnihhlbeebaaRowsM
import Derived.Test.YtcefnihhlbeebaaRingWalkD
import Derived.Test.YtcefnihhlbeebaaRingWalkE
import Derived.Test.YtcefnihhlbeebaaRingWalkF
import Derived.Test.YtcefnihhlbeebaaRingWalkG
namespace Go.Proofs.Ytcefnihhlbeebaa
set_option linter.unusedSimpArgs false
set_option linter.unusedVariables false
open Go.RowKit Go.Sep Go.RingM

theorem Holds.rowsOk {p n i : Nat} {rs : List (List Int)} {e w : World} {L : List HProp} (hi : L[i]? = some (IsRows p n rs)) (hw : Holds e w L) : RowsOk n rs := (IsRows.ring (hw.focus1 i hi)).1

theorem bound_len {n : Nat} {l : List Int} (hnd : l.Nodup) (h : ∀ x ∈ l, 0 ≤ x ∧ x < n) : l.length ≤ n := by
  have h1 : (l.map Int.toNat).Nodup := by
    unfold List.Nodup
    rw [List.pairwise_map]
    refine hnd.imp_of_mem ?_
    intro a b ha hb hne e
    have h1 := h a ha
    have h2 := h b hb
    exact hne (by omega)
  have h2 := nodup_le (n := n) h1 (fun x hx => by
    obtain ⟨y, hy, rfl⟩ := List.mem_map.1 hx
    have := h y hy; omega)
  simpa using h2
theorem rowsLen {n : Nat} {rs : List (List Int)} (h : RowsOk n rs) {l : List Int} (hl : l ∈ rs) : l.length ≤ n := bound_len (h.nodup l hl) (h.pos l hl)

theorem wNew (m n : Nat) (n1 : 1 ≤ n) (n2 : n ≤ 1000) (m1 : 1 ≤ m) (m2 : m ≤ 1000) (e w : World) (X : HProp) (hw : Holds e w [X]) :
    Calls Try.prog 20 #[.int .i64 (m : Int), .int .i64 (n : Int)] w fun en w' => ∃ p, en = .returned (.tuple #[.pointer (some ⟨p, 0, none⟩), .int .i64 0]) ∧ Holds e w' [X, IsRows p n (List.replicate m [])] := by
  refine (rNew_ok m n n1 n2 m1 m2 e w X hw).mono ?_
  rintro en w' ⟨p, rfl, h⟩
  refine ⟨p, rfl, IsRows.of ?_ ?_⟩
  · intro l hl x hx
    rw [(List.mem_replicate.1 hl).2] at hx; cases hx
  · have e1 : newRing n m = rg n (List.replicate m []) := by simp [newRing, rg, tn]
    rw [← e1]; exact h
theorem wIn (p n : Nat) (rs : List (List Int)) (x : Int) (e w : World) (X : HProp) (hw : Holds e w [X, IsRows p n rs]) :
    Calls Try.prog 29 #[.pointer (some ⟨p, 0, none⟩), .int .i64 x] w fun en w' => en = .returned (.int .i64 (rowOf rs x)) ∧ w' = w := by
  obtain ⟨hok, h2⟩ := IsRows.ring hw
  rw [← rg_in hok]
  exact rIn_calls p _ x e w X h2
theorem wFirst (p n : Nat) (rs : List (List Int)) (r : Nat) (hr : r < rs.length) (e w : World) (X : HProp) (hw : Holds e w [X, IsRows p n rs]) :
    Calls Try.prog 33 #[.pointer (some ⟨p, 0, none⟩), .int .i64 (r : Int)] w fun en w' => en = .returned (.int .i64 ((rs.getD r []).headD (-1))) ∧ Holds e w' [X, IsRows p n rs] := by
  obtain ⟨hok, h2⟩ := IsRows.ring hw
  rw [← rg_first hok hr]
  refine (rFirst_calls p _ r e w X h2).mono ?_
  rintro en w' ⟨rfl, h⟩
  exact ⟨rfl, IsRows.of hok.p0 h⟩
theorem wPut (p n : Nat) (rs : List (List Int)) (r : Nat) (hr : r < rs.length) (x : Int) (e w : World) (X : HProp) (hw : Holds e w [X, IsRows p n rs]) :
    Calls Try.prog 24 #[.pointer (some ⟨p, 0, none⟩), .int .i64 (r : Int), .int .i64 x] w fun en w' => en = .returned (.int .i64 (putE n rs x)) ∧ Holds e w' [X, IsRows p n (putR n rs r x)] := by
  obtain ⟨hok, h2⟩ := IsRows.ring hw
  have h := rPut_calls p _ r x e w X h2
  rw [rg_may hok hr, rg_add hok hr] at h
  refine h.mono ?_
  rintro en w' ⟨rfl, h⟩
  exact ⟨rfl, IsRows.of (nonneg_put hok.p0 r x) h⟩
theorem wDrop (p n : Nat) (rs : List (List Int)) (x : Int) (e w : World) (X : HProp) (hw : Holds e w [X, IsRows p n rs]) :
    Calls Try.prog 23 #[.pointer (some ⟨p, 0, none⟩), .int .i64 x] w fun en w' => en = .returned (.bool (!decide (rowOf rs x = -1))) ∧ Holds e w' [X, IsRows p n (dropR rs x)] := by
  obtain ⟨hok, h2⟩ := IsRows.ring hw
  have h := rDrop_calls p _ x e w X h2
  rw [rg_in hok, rg_drop hok] at h
  refine h.mono ?_
  rintro en w' ⟨rfl, h⟩
  exact ⟨rfl, IsRows.of (nonneg_drop hok.p0 x) h⟩
theorem wTake (p n : Nat) (rs : List (List Int)) (r : Nat) (hr : r < rs.length) (e w : World) (X : HProp) (hw : Holds e w [X, IsRows p n rs]) :
    Calls Try.prog 28 #[.pointer (some ⟨p, 0, none⟩), .int .i64 (r : Int)] w fun en w' => en = .returned (.tuple #[.int .i64 ((rs.getD r []).headD (-1)), .bool (!(rs.getD r []).isEmpty)]) ∧ Holds e w' [X, IsRows p n (takeR rs r)] := by
  obtain ⟨hok, h2⟩ := IsRows.ring hw
  have h := rTake_calls p _ r e w X h2
  rw [rg_first hok hr, rg_in hok, rg_drop hok, (rg_take hok hr).1, (rg_take hok hr).2] at h
  refine h.mono ?_
  rintro en w' ⟨rfl, h⟩
  exact ⟨rfl, IsRows.of (nonneg_take hok.p0 r) h⟩
theorem wList (p n : Nat) (rs : List (List Int)) (r : Int) (e w : World) (X : HProp) (hw : Holds e w [X, IsRows p n rs]) :
    Calls Try.prog 21 #[.pointer (some ⟨p, 0, none⟩), .int .i64 r] w fun en w' => ∃ v, en = .returned v ∧ Holds e w' [X, IsRows p n rs, IsInts v (if 0 ≤ r then rs.getD r.toNat [] else [])] := by
  obtain ⟨hok, h2⟩ := IsRows.ring hw
  have h := rList_calls p _ r e w X h2
  rw [rg_rowOf] at h
  have e1 : ints (tn (if 0 ≤ r then rs.getD r.toNat [] else [])) = if 0 ≤ r then rs.getD r.toNat [] else [] := by
    unfold ints
    apply tn_ints
    intro y hy
    split at hy
    · rw [List.getD_eq_getElem?_getD] at hy
      cases hs : rs[r.toNat]? with
      | none => rw [hs] at hy; cases hy
      | some m => rw [hs] at hy; exact hok.p0 m (List.mem_of_getElem? hs) y hy
    · cases hy
  rw [e1] at h
  refine h.mono ?_
  rintro en w' ⟨v, rfl, h⟩
  exact ⟨v, rfl, (IsRows.of hok.p0 (h.sel [0, 1] (by decide) : Holds e w' [X, _])).1, by
    have h3 : Holds e w' [sepL [X, IsInts v _], IsRing p (rg n rs)] := Holds.group [X, IsInts v _] [_] (h.sel [0, 2, 1] (by decide))
    exact ((Holds.ungroup [X, IsInts v _] [_] (IsRows.of hok.p0 h3)).sel [0, 2, 1] (by decide)).2⟩
end Go.Proofs.Ytcefnihhlbeebaa
