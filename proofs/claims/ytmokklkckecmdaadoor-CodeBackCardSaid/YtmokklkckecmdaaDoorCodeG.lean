/-
  The walks of fits and Right, the program's and the document's.
-/
import Derived.Test.YtmokklkckecmdaaDoorCodeF
namespace Go.Proofs.YtmokklkckecmdaaDoor
set_option linter.unusedSimpArgs false
set_option linter.unusedVariables false
open Go.RowKit Go.Sep

theorem letters_lt {c : Nat} (h : c ∈ letters) : c < 128 := by
  simp only [letters, List.mem_cons, List.not_mem_nil, or_false] at h; omega
/-- The variable of the package, as the program lays it. -/
def TopsAt (w : World) : Prop := w.cell? ⟨0, 0, none⟩ = some (.int .i64 6) ∧ w.cell? ⟨0, 1, none⟩ = some (.int .i64 4) ∧ w.cell? ⟨0, 2, none⟩ = some (.int .i64 8)
set_option maxHeartbeats 4000000 in
theorem oFits (c : Nat) (hc : c ∈ letters) (n long : Int) (w : World) (ht : TopsAt w) :
    Calls Tryd.prog 25 #[.int .i32 (c : Int), .int .i64 n, .int .i64 long] w fun en w' => en = .returned (.bool (fitsP c n long)) ∧ w' = w := by
  obtain ⟨t0, t1, t2⟩ := ht
  simp only [letters, List.mem_cons, List.not_mem_nil, or_false] at hc
  rcases hc with rfl | rfl | rfl | rfl | rfl | rfl
  all_goals simp only [fitsP, reduceIte, Nat.reduceEqDiff]
  · by_cases h0 : 0 ≤ n
    · have h1 : decide (n = 0) = decide (n < 1) := by by_cases h : n = 0 <;> simp [h]; omega
      rw [h1]; clear h1
      refine Sep.calls_post ?_
      intro Post_ hPost_
      have HP := Sep.hid hPost_
      clear hPost_
      go_enter Tryd.func25, Tryd.ntmps25
      go_wp2_with fail
      exact HP.out _ _ ⟨rfl, rfl⟩
    · have h1 : decide (n = 0) = false := by simp; omega
      rw [h1]; clear h1
      refine Sep.calls_post ?_
      intro Post_ hPost_
      have HP := Sep.hid hPost_
      clear hPost_
      go_enter Tryd.func25, Tryd.ntmps25
      go_wp2_with fail
      exact HP.out _ _ ⟨rfl, rfl⟩
  · by_cases h0 : 0 ≤ n
    · have h1 : decide (0 ≤ n ∧ n ≤ long) = decide (n ≤ long) := by simp [h0]
      rw [h1]; clear h1
      refine Sep.calls_post ?_
      intro Post_ hPost_
      have HP := Sep.hid hPost_
      clear hPost_
      go_enter Tryd.func25, Tryd.ntmps25
      go_wp2_with fail
      exact HP.out _ _ ⟨rfl, rfl⟩
    · have h1 : decide (0 ≤ n ∧ n ≤ long) = false := by simp [h0]
      rw [h1]; clear h1
      refine Sep.calls_post ?_
      intro Post_ hPost_
      have HP := Sep.hid hPost_
      clear hPost_
      go_enter Tryd.func25, Tryd.ntmps25
      go_wp2_with fail
      exact HP.out _ _ ⟨rfl, rfl⟩
  · refine Sep.calls_post ?_
    intro Post_ hPost_
    have HP := Sep.hid hPost_
    clear hPost_
    go_enter Tryd.func25, Tryd.ntmps25
    go_wp2_with fail
    exact HP.out _ _ ⟨rfl, rfl⟩
  · by_cases h0 : 0 ≤ n
    · have h1 : decide (0 ≤ n ∧ n < 4) = decide (n < 4) := by simp [h0]
      rw [h1]; clear h1
      refine Sep.calls_post ?_
      intro Post_ hPost_
      have HP := Sep.hid hPost_
      clear hPost_
      go_enter Tryd.func25, Tryd.ntmps25
      go_wp2_with fail
      exact HP.out _ _ ⟨rfl, rfl⟩
    · have h1 : decide (0 ≤ n ∧ n < 4) = false := by simp [h0]
      rw [h1]; clear h1
      refine Sep.calls_post ?_
      intro Post_ hPost_
      have HP := Sep.hid hPost_
      clear hPost_
      go_enter Tryd.func25, Tryd.ntmps25
      go_wp2_with fail
      exact HP.out _ _ ⟨rfl, rfl⟩
  · by_cases h0 : 0 ≤ n
    · have h1 : decide (0 ≤ n ∧ n < 8) = decide (n < 8) := by simp [h0]
      rw [h1]; clear h1
      refine Sep.calls_post ?_
      intro Post_ hPost_
      have HP := Sep.hid hPost_
      clear hPost_
      go_enter Tryd.func25, Tryd.ntmps25
      go_wp2_with fail
      exact HP.out _ _ ⟨rfl, rfl⟩
    · have h1 : decide (0 ≤ n ∧ n < 8) = false := by simp [h0]
      rw [h1]; clear h1
      refine Sep.calls_post ?_
      intro Post_ hPost_
      have HP := Sep.hid hPost_
      clear hPost_
      go_enter Tryd.func25, Tryd.ntmps25
      go_wp2_with fail
      exact HP.out _ _ ⟨rfl, rfl⟩
  · by_cases h0 : 0 ≤ n
    · have h1 : decide (0 ≤ n ∧ n < 6) = decide (n < 6) := by simp [h0]
      rw [h1]; clear h1
      refine Sep.calls_post ?_
      intro Post_ hPost_
      have HP := Sep.hid hPost_
      clear hPost_
      go_enter Tryd.func25, Tryd.ntmps25
      go_wp2_with fail
      exact HP.out _ _ ⟨rfl, rfl⟩
    · have h1 : decide (0 ≤ n ∧ n < 6) = false := by simp [h0]
      rw [h1]; clear h1
      refine Sep.calls_post ?_
      intro Post_ hPost_
      have HP := Sep.hid hPost_
      clear hPost_
      go_enter Tryd.func25, Tryd.ntmps25
      go_wp2_with fail
      exact HP.out _ _ ⟨rfl, rfl⟩
set_option maxHeartbeats 4000000 in
theorem rFits (c : Nat) (hc : c ∈ letters) (n long : Int) (w : World) :
    Calls Tryd.prog 26 #[.int .u8 (c : Int), .int .i64 n, .int .i64 long] w fun en w' => en = .returned (.bool (fitsP c n long)) ∧ w' = w := by
  simp only [letters, List.mem_cons, List.not_mem_nil, or_false] at hc
  rcases hc with rfl | rfl | rfl | rfl | rfl | rfl
  all_goals simp only [fitsP, reduceIte, Nat.reduceEqDiff]
  · have h1 : decide (n = 0) = (n == 0) := by by_cases h : n = 0 <;> simp [h]
    rw [h1]; clear h1
    refine Sep.calls_post ?_
    intro Post_ hPost_
    have HP := Sep.hid hPost_
    clear hPost_
    go_enter Tryd.func26, Tryd.ntmps26
    go_wp2_with fail
    exact HP.out _ _ ⟨rfl, rfl⟩
  · by_cases h0 : 0 ≤ n
    · have h1 : decide (0 ≤ n ∧ n ≤ long) = decide (n ≤ long) := by simp [h0]
      rw [h1]; clear h1
      refine Sep.calls_post ?_
      intro Post_ hPost_
      have HP := Sep.hid hPost_
      clear hPost_
      go_enter Tryd.func26, Tryd.ntmps26
      go_wp2_with fail
      exact HP.out _ _ ⟨rfl, rfl⟩
    · have h1 : decide (0 ≤ n ∧ n ≤ long) = false := by simp [h0]
      rw [h1]; clear h1
      refine Sep.calls_post ?_
      intro Post_ hPost_
      have HP := Sep.hid hPost_
      clear hPost_
      go_enter Tryd.func26, Tryd.ntmps26
      go_wp2_with fail
      exact HP.out _ _ ⟨rfl, rfl⟩
  · refine Sep.calls_post ?_
    intro Post_ hPost_
    have HP := Sep.hid hPost_
    clear hPost_
    go_enter Tryd.func26, Tryd.ntmps26
    go_wp2_with fail
    exact HP.out _ _ ⟨rfl, rfl⟩
  · by_cases h0 : 0 ≤ n
    · have h1 : decide (0 ≤ n ∧ n < 4) = decide (n < 4) := by simp [h0]
      rw [h1]; clear h1
      refine Sep.calls_post ?_
      intro Post_ hPost_
      have HP := Sep.hid hPost_
      clear hPost_
      go_enter Tryd.func26, Tryd.ntmps26
      go_wp2_with fail
      exact HP.out _ _ ⟨rfl, rfl⟩
    · have h1 : decide (0 ≤ n ∧ n < 4) = false := by simp [h0]
      rw [h1]; clear h1
      refine Sep.calls_post ?_
      intro Post_ hPost_
      have HP := Sep.hid hPost_
      clear hPost_
      go_enter Tryd.func26, Tryd.ntmps26
      go_wp2_with fail
      exact HP.out _ _ ⟨rfl, rfl⟩
  · by_cases h0 : 0 ≤ n
    · have h1 : decide (0 ≤ n ∧ n < 8) = decide (n < 8) := by simp [h0]
      rw [h1]; clear h1
      refine Sep.calls_post ?_
      intro Post_ hPost_
      have HP := Sep.hid hPost_
      clear hPost_
      go_enter Tryd.func26, Tryd.ntmps26
      go_wp2_with fail
      exact HP.out _ _ ⟨rfl, rfl⟩
    · have h1 : decide (0 ≤ n ∧ n < 8) = false := by simp [h0]
      rw [h1]; clear h1
      refine Sep.calls_post ?_
      intro Post_ hPost_
      have HP := Sep.hid hPost_
      clear hPost_
      go_enter Tryd.func26, Tryd.ntmps26
      go_wp2_with fail
      exact HP.out _ _ ⟨rfl, rfl⟩
  · by_cases h0 : 0 ≤ n
    · have h1 : decide (0 ≤ n ∧ n < 6) = decide (n < 6) := by simp [h0]
      rw [h1]; clear h1
      refine Sep.calls_post ?_
      intro Post_ hPost_
      have HP := Sep.hid hPost_
      clear hPost_
      go_enter Tryd.func26, Tryd.ntmps26
      go_wp2_with fail
      exact HP.out _ _ ⟨rfl, rfl⟩
    · have h1 : decide (0 ≤ n ∧ n < 6) = false := by simp [h0]
      rw [h1]; clear h1
      refine Sep.calls_post ?_
      intro Post_ hPost_
      have HP := Sep.hid hPost_
      clear hPost_
      go_enter Tryd.func26, Tryd.ntmps26
      go_wp2_with fail
      exact HP.out _ _ ⟨rfl, rfl⟩
end Go.Proofs.YtmokklkckecmdaaDoor
