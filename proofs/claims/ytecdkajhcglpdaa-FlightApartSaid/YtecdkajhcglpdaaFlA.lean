/-
  What is done of one key changes nothing of another one's call.
-/
import Derived.Test.YtecdkajhcglpdaaFlM
namespace Go.Proofs.Ytecdkajhcglpdaa
set_option linter.unusedSimpArgs false
set_option linter.unusedVariables false
open Go.RowKit Go.Sep Go.RingM

theorem row_set {M : FM} (h : M.Ok) {u t : Int} (l : List Int) (hu : 0 ≤ u) (hne : t ≠ u) : (if 0 ≤ t then (M.rows.set u.toNat l).getD t.toNat [] else []) = M.row t := by
  unfold FM.row
  split
  · rw [List.getD_eq_getElem?_getD, List.getD_eq_getElem?_getD, List.getElem?_set_ne (by omega)]
  · rfl
theorem leader_keys {M : FM} (h : M.Ok) {key : Int} (h0 : 0 ≤ M.leader key) : M.keys (M.leader key) = some key := by
  unfold FM.leader at h0 ⊢
  cases hc : M.calls key with
  | none => rw [hc] at h0; simp at h0
  | some u => exact h.lead key u hc
theorem leader_cases {M : FM} (h : M.Ok) (key : Int) : M.leader key = -1 ∨ (0 ≤ M.leader key ∧ M.leader key < M.n ∧ M.keys (M.leader key) = some key ∧ M.calls key = some (M.leader key)) := by
  unfold FM.leader
  cases hc : M.calls key with
  | none => exact .inl rfl
  | some u =>
    have := h.lead key u hc
    have h2 := h.there u key this
    exact .inr ⟨h2.1, h2.2, this, rfl⟩
theorem row_neg (M : FM) : M.row (-1) = [] := by unfold FM.row; rw [if_neg (by decide)]
/-- What the law asks of the last act. -/
def other (M : FM) (d : Deed) (key : Int) : Bool :=
  (decide (¬ d.f2 = key) && (decide (d.f0 = 0) || decide (d.f0 = 2))) || (decide (d.f0 = 1) && (!(M.keys d.f1).isSome || decide (¬ (M.keys d.f1).getD 0 = key))) || (decide (d.f0 = 3) && (decide (M.leader key < 0) || decide (¬ rowOf M.rows d.f1 = M.leader key)))
theorem setI_ne {f : Int → Option Int} {x y : Int} {v : Option Int} (h : y ≠ x) : setI f x v y = f y := by unfold setI; rw [if_neg h]
theorem apart {M : FM} (h : M.Ok) (hr : RowsOk M.n M.rows) (d : Deed) (key : Int) (ho : other M d key = true) :
    (M.act d).2.2.2.2.leader key = M.leader key ∧ (M.act d).2.2.2.2.row (M.leader key) = M.row (M.leader key) := by
  have hl := leader_cases h key
  unfold other at ho
  simp only [Bool.or_eq_true, Bool.and_eq_true, decide_eq_true_eq, Bool.not_eq_true'] at ho
  by_cases h0 : d.f0 = 0
  · have hk : ¬ d.f2 = key := by
      rcases ho with (⟨hk, _⟩ | ⟨h1, _⟩) | ⟨h1, _⟩
      · exact hk
      · omega
      · omega
    have hb : (M.act d).2.2.2.2 = (M.ask d.f1 d.f2).2.2 := by unfold FM.act; rw [if_pos h0]
    rw [hb]; unfold FM.ask
    split
    · exact ⟨rfl, rfl⟩
    split
    · exact ⟨rfl, rfl⟩
    split
    · exact ⟨rfl, rfl⟩
    rename_i h1 h2 h3
    cases hc : M.calls d.f2 with
    | none =>
      refine ⟨?_, rfl⟩
      show (setI M.calls d.f2 (some d.f1) key).getD (-1) = M.leader key
      rw [setI_ne (fun e => hk e.symm)]; rfl
    | some u =>
      refine ⟨rfl, ?_⟩
      have hu := h.lead d.f2 u hc
      have hu0 := h.there u d.f2 hu
      show (if 0 ≤ M.leader key then (putR M.n M.rows u.toNat d.f1).getD (M.leader key).toNat [] else []) = M.row (M.leader key)
      unfold putR
      by_cases hp : putE M.n M.rows d.f1 = 0
      · rw [if_pos hp]
        refine row_set h _ hu0.1 (fun e => ?_)
        rcases hl with hl | ⟨_, _, hl, _⟩
        · omega
        · rw [e, hu] at hl; exact hk (Option.some.inj hl)
      · rw [if_neg hp]; rfl
  by_cases h2 : d.f0 = 2
  · have hk : ¬ d.f2 = key := by
      rcases ho with (⟨hk, _⟩ | ⟨h1, _⟩) | ⟨h1, _⟩
      · exact hk
      · omega
      · omega
    have hb : (M.act d).2.2.2.2 = (M.forget d.f2).2 := by unfold FM.act; rw [if_neg h0, if_neg (by omega), if_pos h2]
    rw [hb]
    refine ⟨?_, rfl⟩
    show (setI M.calls d.f2 none key).getD (-1) = M.leader key
    rw [setI_ne (fun e => hk e.symm)]; rfl
  by_cases h1 : d.f0 = 1
  · have hk : (M.keys d.f1).isSome = false ∨ ¬ (M.keys d.f1).getD 0 = key := by
      rcases ho with (⟨_, hk⟩ | ⟨_, hk⟩) | ⟨h3, _⟩
      · omega
      · exact hk
      · omega
    have hb : (M.act d).2.2.2.2 = (M.fin d.f1).2.2 := by unfold FM.act; rw [if_neg h0, if_pos h1]
    rw [hb]; unfold FM.fin
    split
    · exact ⟨rfl, rfl⟩
    rename_i hth
    have hth : 0 ≤ d.f1 ∧ d.f1 < M.n := Classical.not_not.1 hth
    cases hc : M.keys d.f1 with
    | none => exact ⟨rfl, rfl⟩
    | some k =>
      rw [hc] at hk
      have hkk : ¬ k = key := by
        rcases hk with hk | hk
        · cases hk
        · exact hk
      have hne : M.leader key ≠ d.f1 := fun e => by
        rcases hl with hl | ⟨_, _, hl, _⟩
        · omega
        · rw [e, hc] at hl; exact hkk (Option.some.inj hl)
      refine ⟨?_, ?_⟩
      · show (((if M.leader k = d.f1 then setI M.calls k none else M.calls) key).getD (-1)) = M.leader key
        split
        · rw [setI_ne (fun e => hkk e.symm)]; rfl
        · rfl
      · exact row_set h _ hth.1 hne
  · have h3 : d.f0 = 3 ∧ (M.leader key < 0 ∨ ¬ rowOf M.rows d.f1 = M.leader key) := by
      rcases ho with (⟨_, hk⟩ | ⟨hk, _⟩) | hk
      · omega
      · exact absurd hk h1
      · exact hk
    have hb : (M.act d).2.2.2.2 = (M.leave d.f1).2 := by unfold FM.act; rw [if_neg h0, if_neg h1, if_neg h2, if_pos h3.1]
    rw [hb]
    refine ⟨rfl, ?_⟩
    rcases hl with hl | ⟨hl0, hln, _, _⟩
    · rw [hl]; rfl
    · have hne : ¬ rowOf M.rows d.f1 = M.leader key := by
        rcases h3.2 with h4 | h4
        · omega
        · exact h4
      show (if 0 ≤ M.leader key then (dropR M.rows d.f1).getD (M.leader key).toNat [] else []) = M.row (M.leader key)
      unfold FM.row
      rw [if_pos hl0, if_pos hl0]
      unfold dropR
      rw [List.getD_eq_getElem?_getD, List.getD_eq_getElem?_getD, List.getElem?_map]
      cases hg : M.rows[(M.leader key).toNat]? with
      | none => rfl
      | some l =>
        show without l d.f1 = l
        apply without_none
        intro hm
        apply hne
        have hrs : ¬ rowOf M.rows d.f1 = -1 := fun e => rowOf_neg e l (List.mem_of_getElem? hg) hm
        obtain ⟨r, l2, h5, h6, h7⟩ := rowOf_some hrs
        have := hr.apart r _ l2 l d.f1 h6 hg h7 hm
        rw [h5, this]; omega
end Go.Proofs.Ytecdkajhcglpdaa
