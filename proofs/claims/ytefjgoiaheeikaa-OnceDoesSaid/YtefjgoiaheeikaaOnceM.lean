/-
  A thing that is done once, as plain data: what its methods answer, and what they leave.
-/
import Derived.Test.YtefjgoiaheeikaaRowsM
import Derived.Test.YtefjgoiaheeikaaDeed
namespace Go.Proofs.Ytefjgoiaheeikaa
set_option linter.unusedSimpArgs false
set_option linter.unusedVariables false
open Go.RowKit Go.Sep Go.RingM

structure OM where
  n : Nat
  s : Int
  b : Int
  row : List Int
def OM.begin (M : OM) (t : Int) : Int × Int × OM :=
  if ¬ (0 ≤ t ∧ t < M.n) then (0, 3, M)
  else if t ∈ M.row then (0, 6, M)
  else if M.b = t then (0, 4, M)
  else if M.s = 0 then (0, 0, { M with s := 1, b := t })
  else if M.s = 2 then (2, 0, M)
  else (M.s, 0, { M with row := M.row ++ [t] })
def OM.fin (M : OM) (t : Int) : List Int × Int × OM :=
  if ¬ (0 ≤ t ∧ t < M.n) then ([], 3, M)
  else if ¬ M.b = t then ([], 4, M)
  else (M.row, 0, { M with s := 2, b := -1, row := [] })
def OM.leave (M : OM) (t : Int) : Bool × OM := (decide (t ∈ M.row), { M with row := without M.row t })
def OM.act (M : OM) (a : Deed) : Int × Bool × List Int × Int × OM :=
  if a.f0 = 0 then ((M.begin a.f1).1, false, [], (M.begin a.f1).2.1, (M.begin a.f1).2.2)
  else if a.f0 = 1 then (0, false, (M.fin a.f1).1, (M.fin a.f1).2.1, (M.fin a.f1).2.2)
  else if a.f0 = 2 then (0, (M.leave a.f1).1, [], 0, (M.leave a.f1).2)
  else (0, false, [], 0, M)


theorem OM.act_cases (M : OM) (d : Deed) :
    (∃ er, ¬ er = 0 ∧ M.act d = (0, false, [], er, M)) ∨
    (d.f0 = 0 ∧ 0 ≤ d.f1 ∧ d.f1 ∉ M.row ∧ ((M.s = 0 ∧ M.act d = (0, false, [], 0, { M with s := 1, b := d.f1 })) ∨ (M.s = 2 ∧ M.act d = (2, false, [], 0, M)) ∨ (¬ M.s = 0 ∧ ¬ M.s = 2 ∧ M.act d = (M.s, false, [], 0, { M with row := M.row ++ [d.f1] })))) ∨
    (d.f0 = 1 ∧ 0 ≤ d.f1 ∧ M.b = d.f1 ∧ M.act d = (0, false, M.row, 0, { M with s := 2, b := -1, row := [] })) ∨
    (d.f0 = 2 ∧ d.f1 ∈ M.row ∧ M.act d = (0, true, [], 0, { M with row := without M.row d.f1 })) ∨
    (d.f0 = 2 ∧ d.f1 ∉ M.row ∧ M.act d = (0, false, [], 0, M)) ∨
    (¬ d.f0 = 0 ∧ ¬ d.f0 = 1 ∧ ¬ d.f0 = 2 ∧ M.act d = (0, false, [], 0, M)) := by
  unfold OM.act
  by_cases h0 : d.f0 = 0
  · rw [if_pos h0]
    unfold OM.begin
    by_cases ht : 0 ≤ d.f1 ∧ d.f1 < M.n
    · rw [if_neg (fun h => h ht)]
      by_cases hr : d.f1 ∈ M.row
      · rw [if_pos hr]; exact .inl ⟨6, by decide, rfl⟩
      · rw [if_neg hr]
        by_cases hb : M.b = d.f1
        · rw [if_pos hb]; exact .inl ⟨4, by decide, rfl⟩
        · rw [if_neg hb]
          refine .inr (.inl ⟨h0, ht.1, hr, ?_⟩)
          by_cases hs0 : M.s = 0
          · rw [if_pos hs0]; exact .inl ⟨hs0, rfl⟩
          · rw [if_neg hs0]
            by_cases hs2 : M.s = 2
            · rw [if_pos hs2]; exact .inr (.inl ⟨hs2, rfl⟩)
            · rw [if_neg hs2]; exact .inr (.inr ⟨hs0, hs2, rfl⟩)
    · rw [if_pos ht]; exact .inl ⟨3, by decide, rfl⟩
  · rw [if_neg h0]
    by_cases h1 : d.f0 = 1
    · rw [if_pos h1]
      unfold OM.fin
      by_cases ht : 0 ≤ d.f1 ∧ d.f1 < M.n
      · rw [if_neg (fun h => h ht)]
        by_cases hb : M.b = d.f1
        · rw [if_neg (fun h => h hb)]; exact .inr (.inr (.inl ⟨h1, ht.1, hb, rfl⟩))
        · rw [if_pos hb]; exact .inl ⟨4, by decide, rfl⟩
      · rw [if_pos ht]; exact .inl ⟨3, by decide, rfl⟩
    · rw [if_neg h1]
      by_cases h2 : d.f0 = 2
      · rw [if_pos h2]
        unfold OM.leave
        by_cases hr : d.f1 ∈ M.row
        · exact .inr (.inr (.inr (.inl ⟨h2, hr, by simp [hr]⟩)))
        · refine .inr (.inr (.inr (.inr (.inl ⟨h2, hr, ?_⟩))))
          simp only [hr, decide_false]
          rw [without_none hr]
      · rw [if_neg h2]; exact .inr (.inr (.inr (.inr (.inr ⟨h0, h1, h2, rfl⟩))))
end Go.Proofs.Ytefjgoiaheeikaa
