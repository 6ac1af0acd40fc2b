/-
  What came in, as memory tells it; what may be in a program may be in a longer one.
-/
import Derived.Test.YtmokklkckecmdaaDoorCodeQ
import Derived.Test.YtmokklkckecmdaaDoorSepPart
namespace Go.Proofs.YtmokklkckecmdaaDoor
set_option linter.unusedSimpArgs false
set_option linter.unusedVariables false
open Go.RowKit Go.Sep

theorem fits_mono {c : Nat} {v n m : Int} (h : n ≤ m) (h1 : fitsP c v n = true) : fitsP c v m = true := by
  unfold fitsP at h1 ⊢
  split at h1 <;> rename_i h2
  · rw [if_pos h2]; exact h1
  rw [if_neg h2]
  split at h1 <;> rename_i h2
  · rw [if_pos h2]; exact h1
  rw [if_neg h2]
  split at h1 <;> rename_i h2
  · rw [if_pos h2]; exact h1
  rw [if_neg h2]
  split at h1 <;> rename_i h2
  · rw [if_pos h2]; simp only [decide_eq_true_eq] at h1 ⊢; omega
  rw [if_neg h2]; exact h1
theorem right_mono {x : Deed} {n m : Int} (h : n ≤ m) (h1 : rightP x n = true) : rightP x m = true := by
  unfold rightP at h1 ⊢
  split at h1
  · rename_i c0 c1 c2 hf
    simp only [Bool.and_eq_true] at h1 ⊢
    exact ⟨fits_mono h h1.1, fits_mono h h1.2.1, fits_mono h h1.2.2⟩
  · cases h1
theorem may_longer {l : List Deed} {x : Deed} (h : mayP l = true) (hl : l.length < 24) : mayP (l ++ [x]) = rightP x (l.length + 1 : Int) := by
  unfold mayP at h ⊢
  simp only [Bool.and_eq_true, decide_eq_true_eq, List.all_eq_true] at h
  have e1 : ((l ++ [x]).length : Int) = (l.length + 1 : Int) := by rw [List.length_append]; rfl
  rw [e1, List.all_append]
  have h1 : l.all (fun y => rightP y (l.length + 1 : Int)) = true := List.all_eq_true.2 fun y hy => right_mono (by omega) (h.2 y hy)
  rw [h1, List.length_append]
  simp; omega
theorem old_acts {e : World} {a : Option Addr} {l : List Deed} (h : ActsAt e a l) : RdA e (Old e) a l := by
  intro w L i hw hi k x hx
  obtain ⟨_, p, hp, hc⟩ := h k x hx
  exact ⟨p, hp, fun j c hj => old_cell hw hi (hc j c hj)⟩
theorem old_tops {e : World} (h : TopsAt e) : Tops e (Old e) := by
  intro w L i hw hi
  exact ⟨old_cell hw hi h.1, old_cell hw hi h.2.1, old_cell hw hi h.2.2⟩
theorem news_of {w : World} {a : Option Addr} {l : List Deed} {n cap : Nat} (h : ReadsA w a l) (hn : l.length = n) :
    (0 < n ∧ ∃ ad c, Value.slice a n cap = .slice (some ad) n c ∧ ∀ (q : Nat) (y : Value), (encAs l)[q]? = some y → w.cell? (ad.add q) = some y) ∨ (n = 0 ∧ ∃ ao c, Value.slice a n cap = .slice ao 0 c) := by
  by_cases h0 : n = 0
  · subst h0; exact .inr ⟨rfl, _, _, rfl⟩
  · left
    obtain ⟨p, rfl, _⟩ := h 0 _ (List.getElem?_eq_getElem (by omega))
    refine ⟨by omega, p, cap, rfl, fun q y hy => ?_⟩
    have hq : q < l.length * 4 := by
      have := (List.getElem?_eq_some_iff.1 hy).1
      rwa [encAs_length] at this
    obtain ⟨x, hx⟩ : ∃ x, l[q / 4]? = some x := ⟨_, List.getElem?_eq_getElem (by omega)⟩
    obtain ⟨p2, hp2, hc⟩ := h _ x hx
    cases hp2
    have e1 : q = q / 4 * 4 + q % 4 := by omega
    have h2 := hc (q % 4) y (by
      rw [e1] at hy
      unfold encAs at hy
      rwa [flat_get encA_len hx (by omega)] at hy)
    rw [Go.Deep.add_add, ← e1] at h2
    exact h2
end Go.Proofs.YtmokklkckecmdaaDoor
