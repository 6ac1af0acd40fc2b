/-
  The plain law of CodeBack: a program comes back from its bytes, bytes from programs, and cut off none comes.
-/
import Derived.Test.YtmokklkckecmdaaDoorCodeV
namespace Go.Proofs.YtmokklkckecmdaaDoor
set_option linter.unusedSimpArgs false
set_option linter.unusedVariables false
open Go.RowKit Go.Sep

theorem numU8 (c0 c1 c2 c3 c4 c5 c6 c7 : Int) : numU [c0, c1, c2, c3, c4, c5, c6, c7] = 256 * (256 * (256 * (256 * (256 * (256 * (256 * (256 * 0 + c0) + c1) + c2) + c3) + c4) + c5) + c6) + c7 := rfl
theorem u64w (n : Int) : IntKind.u64.wrap n = n % 18446744073709551616 := by
  rw [IntKind.wrap_u64]
theorem be8_num (c0 c1 c2 c3 c4 c5 c6 c7 : Int) (h0 : 0 ≤ c0 ∧ c0 ≤ 255) (h1 : 0 ≤ c1 ∧ c1 ≤ 255) (h2 : 0 ≤ c2 ∧ c2 ≤ 255) (h3 : 0 ≤ c3 ∧ c3 ≤ 255) (h4 : 0 ≤ c4 ∧ c4 ≤ 255) (h5 : 0 ≤ c5 ∧ c5 ≤ 255) (h6 : 0 ≤ c6 ∧ c6 ≤ 255) (h7 : 0 ≤ c7 ∧ c7 ≤ 255) :
    be8 (numP [c0, c1, c2, c3, c4, c5, c6, c7]) = [c0, c1, c2, c3, c4, c5, c6, c7] := by
  unfold numP be8
  rw [numU8, u64w]
  unfold wrap64
  simp only [List.cons.injEq, and_true]
  refine ⟨?_, ?_, ?_, ?_, ?_, ?_, ?_, ?_⟩ <;> omega
theorem num_be8 (n : Int) (hn : -9223372036854775808 ≤ n ∧ n ≤ 9223372036854775807) : numP (be8 n) = n := by
  rw [← be8L_eq]
  obtain ⟨u, hu⟩ : ∃ u, IntKind.u64.wrap n = u := ⟨_, rfl⟩
  rw [hu]
  rw [u64w] at hu
  have e : numU (be8L u) = u := by
    unfold be8L
    rw [numU8]
    have h7 : divN u 8 = 0 := by simp only [divN]; omega
    have hs : ∀ j, 256 * divN u (j + 1) + divN u j % 256 = divN u j := fun j => by simp only [divN]; omega
    have h8 := hs 7
    rw [h7] at h8
    rw [h8, hs 6, hs 5, hs 4, hs 3, hs 2, hs 1, hs 0]; rfl
  unfold numP
  rw [e]
  unfold wrap64
  omega
theorem list11 {l : List Int} (h : l.length = 11) : ∃ a b c d0 d1 d2 d3 d4 d5 d6 d7, l = [a, b, c, d0, d1, d2, d3, d4, d5, d6, d7] := by
  match l, h with
  | [a, b, c, d0, d1, d2, d3, d4, d5, d6, d7], _ => exact ⟨_, _, _, _, _, _, _, _, _, _, _, rfl⟩
theorem enc_ins {l : List Int} (hl : l.length = 11) (hb : Bys l) : encIns (insP l) = l := by
  obtain ⟨a, b, c, d0, d1, d2, d3, d4, d5, d6, d7, rfl⟩ := list11 hl
  have m : ∀ x ∈ [a, b, c, d0, d1, d2, d3, d4, d5, d6, d7], 0 ≤ x ∧ x ≤ 255 := hb
  simp only [List.mem_cons, List.not_mem_nil, or_false, forall_eq_or_imp, forall_eq] at m
  obtain ⟨ma, mb, mc, m0, m1, m2, m3, m4, m5, m6, m7⟩ := m
  show [a % 256, b % 256, c % 256] ++ be8 (numP [d0, d1, d2, d3, d4, d5, d6, d7]) = _
  rw [be8_num _ _ _ _ _ _ _ _ m0 m1 m2 m3 m4 m5 m6 m7]
  simp only [List.cons_append, List.nil_append, List.cons.injEq, and_true]
  omega
theorem ins_enc {x : Deed} (h0 : 0 ≤ x.f0 ∧ x.f0 ≤ 255) (h1 : 0 ≤ x.f1 ∧ x.f1 ≤ 255) (h2 : 0 ≤ x.f2 ∧ x.f2 ≤ 255) (h3 : -9223372036854775808 ≤ x.f3 ∧ x.f3 ≤ 9223372036854775807) : insP (encIns x) = x := by
  have e : insP (encIns x) = ⟨x.f0 % 256, x.f1 % 256, x.f2 % 256, numP (be8 x.f3)⟩ := rfl
  rw [e, num_be8 _ h3]
  obtain ⟨f0, f1, f2, f3⟩ := x
  simp only [Deed.mk.injEq, and_true] at *
  omega
/-- An instruction that may be in a program: its first three numbers are bytes. -/
theorem letters_in : ∀ l ∈ formT, l.getD 0 0 ≠ 110 ∧ l.getD 1 0 ≠ 110 := by decide
theorem fits_in {c : Nat} {v n : Int} (hn : 0 ≤ n ∧ n ≤ 24) (hc : c ≠ 110) (h : fitsP c v n = true) : 0 ≤ v ∧ v ≤ 255 := by
  unfold fitsP at h
  repeat' split at h
  all_goals first | (exact absurd (by assumption) hc) | (simp only [decide_eq_true_eq] at h; omega)
theorem right_in {x : Deed} {n : Int} (hn : 0 ≤ n ∧ n ≤ 24) (h : rightP x n = true) : (0 ≤ x.f0 ∧ x.f0 ≤ 255) ∧ (0 ≤ x.f1 ∧ x.f1 ≤ 255) ∧ (0 ≤ x.f2 ∧ x.f2 ≤ 255) := by
  unfold rightP at h
  split at h
  · rename_i c0 c1 c2 hf
    simp only [Bool.and_eq_true] at h
    have hop : 0 ≤ x.f0 ∧ x.f0 ≤ 46 := by
      unfold formP at hf
      split at hf
      · rename_i h0
        have hl : formT.length = 47 := rfl
        rcases Nat.lt_or_ge x.f0.toNat 47 with h2 | h2
        · omega
        · rw [List.getD_eq_getElem?_getD, List.getElem?_eq_none (by rw [hl]; omega)] at hf; cases hf
      · cases hf
    have hmem : [c0, c1, c2] ∈ formT := by
      unfold formP at hf
      rw [if_pos hop.1] at hf
      have hl : formT.length = 47 := rfl
      rw [List.getD_eq_getElem?_getD, List.getElem?_eq_getElem (by rw [hl]; omega)] at hf
      have : formT[x.f0.toNat]'(by rw [hl]; omega) = [c0, c1, c2] := hf
      rw [← this]; exact List.getElem_mem _
    have hn2 := letters_in _ hmem
    exact ⟨by omega, fits_in hn hn2.1 h.1, fits_in hn hn2.2 h.2.1⟩
  · cases h
theorem flat_part (l : List Deed) : ∀ (k : Nat) (x : Deed), l[k]? = some x → (((l.flatMap encIns).drop (k * 11)).take 11) = encIns x := by
  induction l with
  | nil => intro k x h; cases h
  | cons y l ih =>
    intro k x h
    cases k with
    | zero =>
      simp at h; subst h
      rw [List.flatMap_cons, Nat.zero_mul, List.drop_zero]
      exact List.take_left' (encIns_len y)
    | succ k =>
      rw [List.flatMap_cons, show (k + 1) * 11 = (encIns y).length + k * 11 by rw [encIns_len]; omega, ← List.drop_drop, List.drop_left]
      exact ih k x (by simpa using h)
/-- A program comes back from its bytes, whatever stands behind. -/
theorem read_bytes {l : List Deed} {rest : List Int} (hm : mayP l = true) (ho : ∀ x ∈ l, -9223372036854775808 ≤ x.f3 ∧ x.f3 ≤ 9223372036854775807) : readP (bytesP l ++ rest) = (l, ((bytesP l).length : Int), 0) := by
  have hm2 := hm
  unfold mayP at hm2
  simp only [Bool.and_eq_true, decide_eq_true_eq, List.all_eq_true] at hm2
  obtain ⟨⟨h1, h24⟩, hr⟩ := hm2
  have hL : readL (bytesP l ++ rest) l.length = l := by
    apply List.ext_getElem?
    intro k
    unfold readL
    rw [List.getElem?_map]
    rcases Nat.lt_or_ge k l.length with hk | hk
    · rw [List.getElem?_range hk]
      have hx : l[k]? = some l[k] := List.getElem?_eq_getElem hk
      rw [hx]
      simp only [Option.map_some]
      congr 1
      have e1 : (((bytesP l ++ rest).drop (1 + k * 11)).take 11) = encIns l[k] := by
        rw [List.drop_append_of_le_length (by rw [bytesP_len]; omega), List.take_append_of_le_length (by rw [List.length_drop, bytesP_len]; omega)]
        unfold bytesP
        rw [Nat.add_comm, List.drop_succ_cons]
        exact flat_part l k _ hx
      rw [e1]
      have hi := right_in ⟨by omega, by omega⟩ (hr _ (List.getElem_mem hk))
      exact ins_enc hi.1 hi.2.1 hi.2.2 (ho _ (List.getElem_mem hk))
    · rw [List.getElem?_eq_none (by simpa using hk), List.getElem?_eq_none hk]; rfl
  have hhead : (bytesP l ++ rest).getD 0 0 = (l.length : Int) := by
    unfold bytesP
    simp only [List.cons_append, List.getD_cons_zero]
    omega
  unfold readP
  rw [hhead, Int.toNat_natCast, hL]
  rw [if_neg (by rw [List.length_append, bytesP_len]; omega), if_neg (by omega), if_neg (by rw [List.length_append, bytesP_len]; push_cast; omega), if_pos hm, bytesP_len]
  congr 2
  push_cast; omega
/-- Cut off none comes. -/
theorem read_cut {l : List Deed} (hm : mayP l = true) : readP ((bytesP l).take ((bytesP l).length - 1)) = ([], 0, 8) := by
  unfold mayP at hm
  simp only [Bool.and_eq_true, decide_eq_true_eq] at hm
  obtain ⟨⟨h1, h24⟩, _⟩ := hm
  have hlen : ((bytesP l).take ((bytesP l).length - 1)).length = l.length * 11 := by rw [List.length_take, bytesP_len]; omega
  have hhead : ((bytesP l).take ((bytesP l).length - 1)).getD 0 0 = (l.length : Int) := by
    rw [List.getD_eq_getElem?_getD, List.getElem?_take, if_pos (by rw [bytesP_len]; omega)]
    unfold bytesP
    simp only [List.getElem?_cons_zero, Option.getD_some]
    omega
  unfold readP
  rw [hhead, if_neg (by rw [hlen]; omega), if_neg (by omega), if_pos (by rw [hlen]; push_cast; omega)]
theorem flat_read (b : List Int) (hb : Bys b) : ∀ k, 1 + k * 11 ≤ b.length → (readL b k).flatMap encIns = (b.drop 1).take (k * 11)
  | 0, _ => by simp [readL]
  | k + 1, h => by
    rw [readL_snoc, List.flatMap_append, flat_read b hb k (by omega)]
    simp only [List.flatMap_cons, List.flatMap_nil, List.append_nil]
    rw [enc_ins (by rw [List.length_take, List.length_drop]; omega) ((hb.drop _).take _)]
    rw [show (k + 1) * 11 = k * 11 + 11 by omega, List.take_add, List.drop_drop]
/-- Bytes from programs: those that were read. -/
theorem bytes_read {b : List Int} (hb : Bys b) (h0 : (readP b).2.2 = 0) : ∃ k : Nat, readP b = (readL b k, ((1 + k * 11 : Nat) : Int), 0) ∧ 1 ≤ k ∧ k ≤ 24 ∧ 1 + k * 11 ≤ b.length ∧ mayP (readL b k) = true ∧ bytesP (readL b k) = b.take (1 + k * 11) := by
  unfold readP at h0 ⊢
  split at h0
  · simp at h0
  rename_i hne
  rw [if_neg hne]
  split at h0
  · simp at h0
  rename_i hc
  rw [if_neg hc]
  split at h0
  · simp at h0
  rename_i hlen
  rw [if_neg hlen]
  split at h0
  · rename_i hm
    rw [if_pos hm]
    obtain ⟨k, hk⟩ : ∃ k : Nat, b.getD 0 0 = k := ⟨(b.getD 0 0).toNat, by omega⟩
    rw [hk] at hc hlen hm ⊢
    rw [Int.toNat_natCast] at hm ⊢
    refine ⟨k, by congr 2; push_cast; omega, by omega, by omega, by omega, hm, ?_⟩
    unfold bytesP
    rw [flat_read b hb k (by omega), readL_len]
    cases b with
    | nil => simp at hne
    | cons c b =>
      simp only [List.getD_cons_zero] at hk
      rw [Nat.add_comm 1, List.take_succ_cons, hk]
      simp only [List.drop_succ_cons, List.drop_zero, List.cons.injEq, and_true]
      omega
  · simp at h0
end Go.Proofs.YtmokklkckecmdaaDoor
