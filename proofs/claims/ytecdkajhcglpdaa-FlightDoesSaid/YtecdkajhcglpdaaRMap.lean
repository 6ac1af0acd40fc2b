/-
  A map from whole numbers to slices of whole numbers: what is asked of it is asked from 0 to below a bound.
-/
import Derived.Test.YtecdkajhcglpdaaMapI
import Derived.Test.YtecdkajhcglpdaaInts
import Derived.Test.YtecdkajhcglpdaaSepPick
namespace Go.Proofs.Ytecdkajhcglpdaa
set_option linter.unusedSimpArgs false
set_option linter.unusedVariables false
open Go.RowKit Go.Sep

structure RMv where
  g : Int → Option Value
  vs : List Value
def sliceRows (vs : List Value) (rows : List (List Int)) : List HProp := List.zipWith (fun v l => IsInts v l) vs rows
def RMok (rows : List (List Int)) (x : RMv) : Prop := x.vs.length = rows.length ∧ ∀ (t : Nat) v, x.vs[t]? = some v → (x.g (t : Int)).getD (.slice none 0 0) = v
def rmParts (m : Nat) (rows : List (List Int)) (x : RMv) : List HProp := [IsMap m .i64 x.g, sepL (sliceRows x.vs rows), fct (RMok rows x)]
def IsRM (m : Nat) (rows : List (List Int)) : HProp := exL (rmParts m rows)
theorem sliceRows_length {vs : List Value} {rows : List (List Int)} (h : vs.length = rows.length) : (sliceRows vs rows).length = rows.length := by
  unfold sliceRows; rw [List.length_zipWith, h, Nat.min_self]
theorem sliceRows_get {vs : List Value} {rows : List (List Int)} {i : Nat} {l : List Int} (h : vs.length = rows.length) (hl : rows[i]? = some l) : ∃ v, vs[i]? = some v ∧ (sliceRows vs rows)[i]? = some (IsInts v l) := by
  obtain ⟨hi, hl'⟩ := List.getElem?_eq_some_iff.1 hl
  have hi2 : i < vs.length := by omega
  refine ⟨vs[i], List.getElem?_eq_getElem hi2, ?_⟩
  unfold sliceRows
  rw [List.getElem?_zipWith, List.getElem?_eq_getElem hi2, hl]
theorem sliceRows_set {vs : List Value} {rows : List (List Int)} {i : Nat} {v : Value} {l : List Int} (h : vs.length = rows.length) : (sliceRows vs rows).set i (IsInts v l) = sliceRows (vs.set i v) (rows.set i l) := by
  apply List.ext_getElem?
  intro q
  unfold sliceRows
  simp only [List.getElem?_set, List.getElem?_zipWith, List.length_zipWith, h, Nat.min_self]
  by_cases hq : i = q
  · subst hq
    by_cases hl : i < rows.length
    · simp [hl]
    · simp [hl]
  · simp [hq]
theorem rm_new {e w : World} {X : HProp} {m : Nat} (n : Nat) (hw : Holds e w [X, IsMap m .i64 (fun _ => none)]) : Holds e w [X, IsRM m (List.replicate n [])] := by
  have hr : sliceRows (List.replicate n (Value.slice none 0 0)) (List.replicate n []) = List.replicate n (IsInts (.slice none 0 0) []) := by
    unfold sliceRows
    rw [List.zipWith_replicate, Nat.min_self]
  have hs := hw.addEmp (X := sepL (sliceRows (List.replicate n (Value.slice none 0 0)) (List.replicate n []))) (by
    rw [hr]
    refine ⟨fun _ _ => none, ?_, by simp, by simp⟩
    intro i P hi
    rw [List.getElem?_replicate] at hi
    split at hi
    · cases hi; exact Sl.nil _ _ _
    · cases hi)
  have hf := hs.addFct (p := RMok (List.replicate n []) ⟨fun _ => none, List.replicate n (.slice none 0 0)⟩) ⟨by simp, fun t v hv => by
    rw [List.getElem?_replicate] at hv
    split at hv
    · cases hv; rfl
    · cases hv⟩
  exact exL.mk (f := rmParts m (List.replicate n [])) ⟨fun _ => none, List.replicate n (.slice none 0 0)⟩ hf
/-- A row is taken out. -/
theorem rm_pick {e w : World} {X : HProp} {m t : Nat} {rows : List (List Int)} {l : List Int} (hl : rows[t]? = some l) (hw : Holds e w [X, IsRM m rows]) :
    ∃ (x : RMv) (a : Option Addr) (c : Nat), RMok rows x ∧ x.vs[t]? = some (.slice a l.length c) ∧ (x.g (t : Int)).getD (.slice none 0 0) = .slice a l.length c ∧ Holds e w [X, IsMap m .i64 x.g, sepL ((sliceRows x.vs rows).set t emp), IsInts (.slice a l.length c) l] := by
  obtain ⟨x, hw⟩ := exL.open_ hw
  have hw := hw.open_ 1 rfl
  have hw : Holds e w [X, IsMap m .i64 x.g, sepL (sliceRows x.vs rows), fct (RMok rows x)] := hw
  have hok := Holds.fct (i := 3) rfl hw
  obtain ⟨v, hv, hr⟩ := sliceRows_get hok.1 hl
  have h1 := (hw.sel [0, 1, 2] (by decide)).pick 2 t rfl hr
  have h1 : Holds e w [X, _, _, IsInts v l] := h1
  obtain ⟨a, c, rfl⟩ := Sl.value (i := 3) rfl h1
  exact ⟨x, a, c, hok, hv, hok.2 t _ hv, h1⟩
/-- It goes back as it was. -/
theorem rm_back {e w : World} {X : HProp} {m t : Nat} {rows : List (List Int)} {l : List Int} {x : RMv} {v : Value} (hl : rows[t]? = some l) (hok : RMok rows x) (hv : x.vs[t]? = some v)
    (hw : Holds e w [X, IsMap m .i64 x.g, sepL ((sliceRows x.vs rows).set t emp), IsInts v l]) : Holds e w [X, IsRM m rows] := by
  obtain ⟨ht, hl2⟩ := List.getElem?_eq_some_iff.1 hl
  obtain ⟨ht2, hv2⟩ := List.getElem?_eq_some_iff.1 hv
  have h1 := Holds.unpick (L := [X, IsMap m .i64 x.g, sepL ((sliceRows x.vs rows).set t emp)]) (R := sliceRows x.vs rows) 2 t rfl (by rw [sliceRows_length hok.1]; exact ht) hw
  rw [sliceRows_set hok.1, ← hl2, ← hv2, List.set_getElem_self, List.set_getElem_self] at h1
  exact exL.mk (f := rmParts m rows) x (h1.addFct hok)
/-- Another row stands there now; the map tells so. -/
theorem rm_set {e w : World} {X : HProp} {m t : Nat} {rows : List (List Int)} {l' : List Int} {x : RMv} {v : Value} {o : Option Value} (ht : t < rows.length) (hok : RMok rows x) (ho : o.getD (.slice none 0 0) = v)
    (hw : Holds e w [X, IsMap m .i64 (setF x.g (t : Int) o), sepL ((sliceRows x.vs rows).set t emp), IsInts v l']) : Holds e w [X, IsRM m (rows.set t l')] := by
  have h1 := Holds.unpick (L := [X, IsMap m .i64 (setF x.g (t : Int) o), sepL ((sliceRows x.vs rows).set t emp)]) (R := sliceRows x.vs rows) 2 t rfl (by rw [sliceRows_length hok.1]; exact ht) hw
  rw [sliceRows_set hok.1] at h1
  refine exL.mk (f := rmParts m (rows.set t l')) ⟨setF x.g (t : Int) o, x.vs.set t v⟩ (h1.addFct ⟨by simp [hok.1], fun q u hu => ?_⟩)
  have hu : (x.vs.set t v)[q]? = some u := hu
  show (setF x.g (t : Int) o (q : Int)).getD (.slice none 0 0) = u
  unfold setF
  by_cases hq : q = t
  · subst hq
    rw [if_pos rfl]
    rw [List.getElem?_set_self (by rw [hok.1]; exact ht)] at hu
    cases hu; exact ho
  · rw [if_neg (by omega)]
    rw [List.getElem?_set_ne (Ne.symm hq)] at hu
    exact hok.2 q u hu
end Go.Proofs.Ytecdkajhcglpdaa
