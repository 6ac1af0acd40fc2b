/-
  A slice that is held, cut ahead: what 'xs[l:]' holds, where the whole is held.
-/
import Derived.Test.YtcefnihhlbeebaaSepPart
namespace Go.Sep
set_option linter.unusedSimpArgs false
set_option linter.unusedVariables false
variable {e w : World} {L : List HProp}
theorem Holds.dropSl {E sz i n l cap : Nat} {ao : Option Addr} {cs : List Value} (hw : Holds e w L) (hi : L[i]? = some (Sl E sz (.slice ao n cap) n cs)) (hl : l ≤ n) :
    ∃ a' c', sliced ao l n cap sz = .slice a' (n - l) c' ∧ Holds e w (L.set i (Sl E sz (.slice a' (n - l) c') (n - l) (cs.drop (l * sz)))) := by
  have hcs : cs.length = n * sz := hw.fact hi fun h hp => hp.1
  have hil : i < L.length := (List.getElem?_eq_some_iff.1 hi).1
  rcases hw.openSl hi with ⟨hv, rfl, rfl⟩ | ⟨b, cap', pre, post, hv, hnc, hcm, hpost, hH⟩
  · cases hv
    obtain rfl : l = 0 := by omega
    refine ⟨none, 0, by simp [sliced], ?_⟩
    have hset : L.set i (Sl E sz (.slice none 0 0) 0 []) = L := by
      apply List.ext_getElem?
      intro q
      rw [List.getElem?_set]
      split
      · rename_i e; subst e; rw [hi]; try simp [hil]
      · rfl
    simpa [hset] using hw
  · cases hv
    have hii : (L.set i (pt b (mid pre cs post) E))[i]? = some (pt b (mid pre cs post) E) := List.getElem?_set_self hil
    by_cases hcl : cap = l
    · have hnl : n = l := by omega
      refine ⟨some ⟨b, pre.length, none⟩, 0, by simp [sliced, hcl], ?_⟩
      have hd : cs.drop (l * sz) = [] := List.drop_eq_nil_of_le (by rw [hcs, hnl]; exact Nat.le_refl _)
      have hm : mid pre cs post = mid pre [] (cs ++ post) := by simp [mid]
      have h1 : Holds e w (L.set i (pt b (mid pre [] (cs ++ post)) E)) := by rw [← hm]; exact hH
      have h2 := h1.closeSl (i := i) (sz := sz) (n := 0) (cap := 0) (List.getElem?_set_self hil) (by simp) (Nat.le_refl _) (Nat.zero_le _) (by simp)
      rw [List.set_set] at h2
      rw [hd, show n - l = 0 by omega]
      exact h2
    · refine ⟨some ⟨b, pre.length + l * sz, none⟩, cap - l, ?_, ?_⟩
      · have hadd : (⟨b, pre.length, none⟩ : Addr).add (l * sz) = ⟨b, pre.length + l * sz, none⟩ := by unfold Addr.add; split <;> simp_all
        simp [sliced, hcl, hadd]
      · have hle : l * sz ≤ cs.length := by rw [hcs]; exact Nat.mul_le_mul_right _ hl
        have hm : mid pre cs post = mid (pre ++ cs.take (l * sz)) (cs.drop (l * sz)) post := by simp [mid]
        have hlen : (pre ++ cs.take (l * sz)).length = pre.length + l * sz := by simp; omega
        have h1 : Holds e w (L.set i (pt b (mid (pre ++ cs.take (l * sz)) (cs.drop (l * sz)) post) E)) := by rw [← hm]; exact hH
        have h2 := h1.closeSl (i := i) (sz := sz) (n := n - l) (cap := cap - l) (List.getElem?_set_self hil) (by rw [List.length_drop, hcs, ← Nat.sub_mul]) (by omega) (by omega) (by rw [show cap - l - (n - l) = cap - n by omega]; exact hpost)
        rw [List.set_set, hlen] at h2
        exact h2
end Go.Sep
