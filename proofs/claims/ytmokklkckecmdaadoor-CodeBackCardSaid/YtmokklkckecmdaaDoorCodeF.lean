/-
  The walks of Form and fits, the program's and the document's.
-/
import Derived.Test.YtmokklkckecmdaaDoorIns
import Derived.Test.YtmokklkckecmdaaDoorSepStr
import Derived.Test.YtmokklkckecmdaaDoorSepList
import Derived.Test.YtmokklkckecmdaaDoorSepMore
namespace Go.Proofs.YtmokklkckecmdaaDoor
set_option linter.unusedSimpArgs false
set_option linter.unusedVariables false
open Go.RowKit Go.Sep

def FormSays (f : Nat) (op : Int) : Prop := ∀ w : World, Calls Tryd.prog f #[.int .i64 op] w fun en w' => en = .returned (.string (strOf (formP op))) ∧ w' = w
set_option maxRecDepth 20000 in
set_option maxHeartbeats 40000000 in
theorem oForm_at : ∀ q : Nat, q < 47 → FormSays 12 (q : Int)
  | 0, _ => show FormSays _ 0 from
    by
      intro w
      refine Sep.calls_post ?_
      intro Post_ hPost_
      have HP := Sep.hid hPost_
      clear hPost_
      go_enter Tryd.func12, Tryd.ntmps12
      go_wp2_with fail
      exact HP.out _ _ ⟨rfl, rfl⟩
  | 1, _ => show FormSays _ 1 from
    by
      intro w
      refine Sep.calls_post ?_
      intro Post_ hPost_
      have HP := Sep.hid hPost_
      clear hPost_
      go_enter Tryd.func12, Tryd.ntmps12
      go_wp2_with fail
      exact HP.out _ _ ⟨rfl, rfl⟩
  | 2, _ => show FormSays _ 2 from
    by
      intro w
      refine Sep.calls_post ?_
      intro Post_ hPost_
      have HP := Sep.hid hPost_
      clear hPost_
      go_enter Tryd.func12, Tryd.ntmps12
      go_wp2_with fail
      exact HP.out _ _ ⟨rfl, rfl⟩
  | 3, _ => show FormSays _ 3 from
    by
      intro w
      refine Sep.calls_post ?_
      intro Post_ hPost_
      have HP := Sep.hid hPost_
      clear hPost_
      go_enter Tryd.func12, Tryd.ntmps12
      go_wp2_with fail
      exact HP.out _ _ ⟨rfl, rfl⟩
  | 4, _ => show FormSays _ 4 from
    by
      intro w
      refine Sep.calls_post ?_
      intro Post_ hPost_
      have HP := Sep.hid hPost_
      clear hPost_
      go_enter Tryd.func12, Tryd.ntmps12
      go_wp2_with fail
      exact HP.out _ _ ⟨rfl, rfl⟩
  | 5, _ => show FormSays _ 5 from
    by
      intro w
      refine Sep.calls_post ?_
      intro Post_ hPost_
      have HP := Sep.hid hPost_
      clear hPost_
      go_enter Tryd.func12, Tryd.ntmps12
      go_wp2_with fail
      exact HP.out _ _ ⟨rfl, rfl⟩
  | 6, _ => show FormSays _ 6 from
    by
      intro w
      refine Sep.calls_post ?_
      intro Post_ hPost_
      have HP := Sep.hid hPost_
      clear hPost_
      go_enter Tryd.func12, Tryd.ntmps12
      go_wp2_with fail
      exact HP.out _ _ ⟨rfl, rfl⟩
  | 7, _ => show FormSays _ 7 from
    by
      intro w
      refine Sep.calls_post ?_
      intro Post_ hPost_
      have HP := Sep.hid hPost_
      clear hPost_
      go_enter Tryd.func12, Tryd.ntmps12
      go_wp2_with fail
      exact HP.out _ _ ⟨rfl, rfl⟩
  | 8, _ => show FormSays _ 8 from
    by
      intro w
      refine Sep.calls_post ?_
      intro Post_ hPost_
      have HP := Sep.hid hPost_
      clear hPost_
      go_enter Tryd.func12, Tryd.ntmps12
      go_wp2_with fail
      exact HP.out _ _ ⟨rfl, rfl⟩
  | 9, _ => show FormSays _ 9 from
    by
      intro w
      refine Sep.calls_post ?_
      intro Post_ hPost_
      have HP := Sep.hid hPost_
      clear hPost_
      go_enter Tryd.func12, Tryd.ntmps12
      go_wp2_with fail
      exact HP.out _ _ ⟨rfl, rfl⟩
  | 10, _ => show FormSays _ 10 from
    by
      intro w
      refine Sep.calls_post ?_
      intro Post_ hPost_
      have HP := Sep.hid hPost_
      clear hPost_
      go_enter Tryd.func12, Tryd.ntmps12
      go_wp2_with fail
      exact HP.out _ _ ⟨rfl, rfl⟩
  | 11, _ => show FormSays _ 11 from
    by
      intro w
      refine Sep.calls_post ?_
      intro Post_ hPost_
      have HP := Sep.hid hPost_
      clear hPost_
      go_enter Tryd.func12, Tryd.ntmps12
      go_wp2_with fail
      exact HP.out _ _ ⟨rfl, rfl⟩
  | 12, _ => show FormSays _ 12 from
    by
      intro w
      refine Sep.calls_post ?_
      intro Post_ hPost_
      have HP := Sep.hid hPost_
      clear hPost_
      go_enter Tryd.func12, Tryd.ntmps12
      go_wp2_with fail
      exact HP.out _ _ ⟨rfl, rfl⟩
  | 13, _ => show FormSays _ 13 from
    by
      intro w
      refine Sep.calls_post ?_
      intro Post_ hPost_
      have HP := Sep.hid hPost_
      clear hPost_
      go_enter Tryd.func12, Tryd.ntmps12
      go_wp2_with fail
      exact HP.out _ _ ⟨rfl, rfl⟩
  | 14, _ => show FormSays _ 14 from
    by
      intro w
      refine Sep.calls_post ?_
      intro Post_ hPost_
      have HP := Sep.hid hPost_
      clear hPost_
      go_enter Tryd.func12, Tryd.ntmps12
      go_wp2_with fail
      exact HP.out _ _ ⟨rfl, rfl⟩
  | 15, _ => show FormSays _ 15 from
    by
      intro w
      refine Sep.calls_post ?_
      intro Post_ hPost_
      have HP := Sep.hid hPost_
      clear hPost_
      go_enter Tryd.func12, Tryd.ntmps12
      go_wp2_with fail
      exact HP.out _ _ ⟨rfl, rfl⟩
  | 16, _ => show FormSays _ 16 from
    by
      intro w
      refine Sep.calls_post ?_
      intro Post_ hPost_
      have HP := Sep.hid hPost_
      clear hPost_
      go_enter Tryd.func12, Tryd.ntmps12
      go_wp2_with fail
      exact HP.out _ _ ⟨rfl, rfl⟩
  | 17, _ => show FormSays _ 17 from
    by
      intro w
      refine Sep.calls_post ?_
      intro Post_ hPost_
      have HP := Sep.hid hPost_
      clear hPost_
      go_enter Tryd.func12, Tryd.ntmps12
      go_wp2_with fail
      exact HP.out _ _ ⟨rfl, rfl⟩
  | 18, _ => show FormSays _ 18 from
    by
      intro w
      refine Sep.calls_post ?_
      intro Post_ hPost_
      have HP := Sep.hid hPost_
      clear hPost_
      go_enter Tryd.func12, Tryd.ntmps12
      go_wp2_with fail
      exact HP.out _ _ ⟨rfl, rfl⟩
  | 19, _ => show FormSays _ 19 from
    by
      intro w
      refine Sep.calls_post ?_
      intro Post_ hPost_
      have HP := Sep.hid hPost_
      clear hPost_
      go_enter Tryd.func12, Tryd.ntmps12
      go_wp2_with fail
      exact HP.out _ _ ⟨rfl, rfl⟩
  | 20, _ => show FormSays _ 20 from
    by
      intro w
      refine Sep.calls_post ?_
      intro Post_ hPost_
      have HP := Sep.hid hPost_
      clear hPost_
      go_enter Tryd.func12, Tryd.ntmps12
      go_wp2_with fail
      exact HP.out _ _ ⟨rfl, rfl⟩
  | 21, _ => show FormSays _ 21 from
    by
      intro w
      refine Sep.calls_post ?_
      intro Post_ hPost_
      have HP := Sep.hid hPost_
      clear hPost_
      go_enter Tryd.func12, Tryd.ntmps12
      go_wp2_with fail
      exact HP.out _ _ ⟨rfl, rfl⟩
  | 22, _ => show FormSays _ 22 from
    by
      intro w
      refine Sep.calls_post ?_
      intro Post_ hPost_
      have HP := Sep.hid hPost_
      clear hPost_
      go_enter Tryd.func12, Tryd.ntmps12
      go_wp2_with fail
      exact HP.out _ _ ⟨rfl, rfl⟩
  | 23, _ => show FormSays _ 23 from
    by
      intro w
      refine Sep.calls_post ?_
      intro Post_ hPost_
      have HP := Sep.hid hPost_
      clear hPost_
      go_enter Tryd.func12, Tryd.ntmps12
      go_wp2_with fail
      exact HP.out _ _ ⟨rfl, rfl⟩
  | 24, _ => show FormSays _ 24 from
    by
      intro w
      refine Sep.calls_post ?_
      intro Post_ hPost_
      have HP := Sep.hid hPost_
      clear hPost_
      go_enter Tryd.func12, Tryd.ntmps12
      go_wp2_with fail
      exact HP.out _ _ ⟨rfl, rfl⟩
  | 25, _ => show FormSays _ 25 from
    by
      intro w
      refine Sep.calls_post ?_
      intro Post_ hPost_
      have HP := Sep.hid hPost_
      clear hPost_
      go_enter Tryd.func12, Tryd.ntmps12
      go_wp2_with fail
      exact HP.out _ _ ⟨rfl, rfl⟩
  | 26, _ => show FormSays _ 26 from
    by
      intro w
      refine Sep.calls_post ?_
      intro Post_ hPost_
      have HP := Sep.hid hPost_
      clear hPost_
      go_enter Tryd.func12, Tryd.ntmps12
      go_wp2_with fail
      exact HP.out _ _ ⟨rfl, rfl⟩
  | 27, _ => show FormSays _ 27 from
    by
      intro w
      refine Sep.calls_post ?_
      intro Post_ hPost_
      have HP := Sep.hid hPost_
      clear hPost_
      go_enter Tryd.func12, Tryd.ntmps12
      go_wp2_with fail
      exact HP.out _ _ ⟨rfl, rfl⟩
  | 28, _ => show FormSays _ 28 from
    by
      intro w
      refine Sep.calls_post ?_
      intro Post_ hPost_
      have HP := Sep.hid hPost_
      clear hPost_
      go_enter Tryd.func12, Tryd.ntmps12
      go_wp2_with fail
      exact HP.out _ _ ⟨rfl, rfl⟩
  | 29, _ => show FormSays _ 29 from
    by
      intro w
      refine Sep.calls_post ?_
      intro Post_ hPost_
      have HP := Sep.hid hPost_
      clear hPost_
      go_enter Tryd.func12, Tryd.ntmps12
      go_wp2_with fail
      exact HP.out _ _ ⟨rfl, rfl⟩
  | 30, _ => show FormSays _ 30 from
    by
      intro w
      refine Sep.calls_post ?_
      intro Post_ hPost_
      have HP := Sep.hid hPost_
      clear hPost_
      go_enter Tryd.func12, Tryd.ntmps12
      go_wp2_with fail
      exact HP.out _ _ ⟨rfl, rfl⟩
  | 31, _ => show FormSays _ 31 from
    by
      intro w
      refine Sep.calls_post ?_
      intro Post_ hPost_
      have HP := Sep.hid hPost_
      clear hPost_
      go_enter Tryd.func12, Tryd.ntmps12
      go_wp2_with fail
      exact HP.out _ _ ⟨rfl, rfl⟩
  | 32, _ => show FormSays _ 32 from
    by
      intro w
      refine Sep.calls_post ?_
      intro Post_ hPost_
      have HP := Sep.hid hPost_
      clear hPost_
      go_enter Tryd.func12, Tryd.ntmps12
      go_wp2_with fail
      exact HP.out _ _ ⟨rfl, rfl⟩
  | 33, _ => show FormSays _ 33 from
    by
      intro w
      refine Sep.calls_post ?_
      intro Post_ hPost_
      have HP := Sep.hid hPost_
      clear hPost_
      go_enter Tryd.func12, Tryd.ntmps12
      go_wp2_with fail
      exact HP.out _ _ ⟨rfl, rfl⟩
  | 34, _ => show FormSays _ 34 from
    by
      intro w
      refine Sep.calls_post ?_
      intro Post_ hPost_
      have HP := Sep.hid hPost_
      clear hPost_
      go_enter Tryd.func12, Tryd.ntmps12
      go_wp2_with fail
      exact HP.out _ _ ⟨rfl, rfl⟩
  | 35, _ => show FormSays _ 35 from
    by
      intro w
      refine Sep.calls_post ?_
      intro Post_ hPost_
      have HP := Sep.hid hPost_
      clear hPost_
      go_enter Tryd.func12, Tryd.ntmps12
      go_wp2_with fail
      exact HP.out _ _ ⟨rfl, rfl⟩
  | 36, _ => show FormSays _ 36 from
    by
      intro w
      refine Sep.calls_post ?_
      intro Post_ hPost_
      have HP := Sep.hid hPost_
      clear hPost_
      go_enter Tryd.func12, Tryd.ntmps12
      go_wp2_with fail
      exact HP.out _ _ ⟨rfl, rfl⟩
  | 37, _ => show FormSays _ 37 from
    by
      intro w
      refine Sep.calls_post ?_
      intro Post_ hPost_
      have HP := Sep.hid hPost_
      clear hPost_
      go_enter Tryd.func12, Tryd.ntmps12
      go_wp2_with fail
      exact HP.out _ _ ⟨rfl, rfl⟩
  | 38, _ => show FormSays _ 38 from
    by
      intro w
      refine Sep.calls_post ?_
      intro Post_ hPost_
      have HP := Sep.hid hPost_
      clear hPost_
      go_enter Tryd.func12, Tryd.ntmps12
      go_wp2_with fail
      exact HP.out _ _ ⟨rfl, rfl⟩
  | 39, _ => show FormSays _ 39 from
    by
      intro w
      refine Sep.calls_post ?_
      intro Post_ hPost_
      have HP := Sep.hid hPost_
      clear hPost_
      go_enter Tryd.func12, Tryd.ntmps12
      go_wp2_with fail
      exact HP.out _ _ ⟨rfl, rfl⟩
  | 40, _ => show FormSays _ 40 from
    by
      intro w
      refine Sep.calls_post ?_
      intro Post_ hPost_
      have HP := Sep.hid hPost_
      clear hPost_
      go_enter Tryd.func12, Tryd.ntmps12
      go_wp2_with fail
      exact HP.out _ _ ⟨rfl, rfl⟩
  | 41, _ => show FormSays _ 41 from
    by
      intro w
      refine Sep.calls_post ?_
      intro Post_ hPost_
      have HP := Sep.hid hPost_
      clear hPost_
      go_enter Tryd.func12, Tryd.ntmps12
      go_wp2_with fail
      exact HP.out _ _ ⟨rfl, rfl⟩
  | 42, _ => show FormSays _ 42 from
    by
      intro w
      refine Sep.calls_post ?_
      intro Post_ hPost_
      have HP := Sep.hid hPost_
      clear hPost_
      go_enter Tryd.func12, Tryd.ntmps12
      go_wp2_with fail
      exact HP.out _ _ ⟨rfl, rfl⟩
  | 43, _ => show FormSays _ 43 from
    by
      intro w
      refine Sep.calls_post ?_
      intro Post_ hPost_
      have HP := Sep.hid hPost_
      clear hPost_
      go_enter Tryd.func12, Tryd.ntmps12
      go_wp2_with fail
      exact HP.out _ _ ⟨rfl, rfl⟩
  | 44, _ => show FormSays _ 44 from
    by
      intro w
      refine Sep.calls_post ?_
      intro Post_ hPost_
      have HP := Sep.hid hPost_
      clear hPost_
      go_enter Tryd.func12, Tryd.ntmps12
      go_wp2_with fail
      exact HP.out _ _ ⟨rfl, rfl⟩
  | 45, _ => show FormSays _ 45 from
    by
      intro w
      refine Sep.calls_post ?_
      intro Post_ hPost_
      have HP := Sep.hid hPost_
      clear hPost_
      go_enter Tryd.func12, Tryd.ntmps12
      go_wp2_with fail
      exact HP.out _ _ ⟨rfl, rfl⟩
  | 46, _ => show FormSays _ 46 from
    by
      intro w
      refine Sep.calls_post ?_
      intro Post_ hPost_
      have HP := Sep.hid hPost_
      clear hPost_
      go_enter Tryd.func12, Tryd.ntmps12
      go_wp2_with fail
      exact HP.out _ _ ⟨rfl, rfl⟩
  | q + 47, h => absurd h (by omega)
theorem form_range {op : Int} (hx : ∃ c0 c1 c2, formP op = [c0, c1, c2] ∧ c0 ∈ letters ∧ c1 ∈ letters ∧ c2 ∈ letters) : 0 ≤ op ∧ op.toNat < 47 := by
  obtain ⟨c0, c1, c2, hf, _⟩ := hx
  unfold formP at hf
  split at hf
  · rename_i h0
    refine ⟨h0, ?_⟩
    have hl : formT.length = 47 := rfl
    refine Nat.lt_of_not_le fun hle => ?_
    rw [List.getD_eq_getElem?_getD, List.getElem?_eq_none (by rw [hl]; omega)] at hf
    cases hf
  · cases hf
theorem oForm (op : Int) : FormSays 12 op := by
  rcases form_cases op with ⟨hf, h⟩ | hx
  · intro w
    rw [hf]
    clear hf
    rcases h with h | h
    · refine Sep.calls_post ?_
      intro Post_ hPost_
      have HP := Sep.hid hPost_
      clear hPost_
      go_enter Tryd.func12, Tryd.ntmps12
      go_wp2_with fail
      exact HP.out _ _ ⟨rfl, rfl⟩
    · by_cases h0 : op < 0
      · omega
      · refine Sep.calls_post ?_
        intro Post_ hPost_
        have HP := Sep.hid hPost_
        clear hPost_
        go_enter Tryd.func12, Tryd.ntmps12
        go_wp2_with fail
        exact HP.out _ _ ⟨rfl, rfl⟩
  · have h0 := form_range hx
    have h1 := oForm_at op.toNat h0.2
    rwa [show ((op.toNat : Nat) : Int) = op by omega] at h1
set_option maxRecDepth 20000 in
set_option maxHeartbeats 40000000 in
theorem rForm_at : ∀ q : Nat, q < 47 → FormSays 13 (q : Int)
  | 0, _ => show FormSays _ 0 from
    by
      intro w
      refine Sep.calls_post ?_
      intro Post_ hPost_
      have HP := Sep.hid hPost_
      clear hPost_
      go_enter Tryd.func13, Tryd.ntmps13
      go_wp2_with fail
      exact HP.out _ _ ⟨rfl, rfl⟩
  | 1, _ => show FormSays _ 1 from
    by
      intro w
      refine Sep.calls_post ?_
      intro Post_ hPost_
      have HP := Sep.hid hPost_
      clear hPost_
      go_enter Tryd.func13, Tryd.ntmps13
      go_wp2_with fail
      exact HP.out _ _ ⟨rfl, rfl⟩
  | 2, _ => show FormSays _ 2 from
    by
      intro w
      refine Sep.calls_post ?_
      intro Post_ hPost_
      have HP := Sep.hid hPost_
      clear hPost_
      go_enter Tryd.func13, Tryd.ntmps13
      go_wp2_with fail
      exact HP.out _ _ ⟨rfl, rfl⟩
  | 3, _ => show FormSays _ 3 from
    by
      intro w
      refine Sep.calls_post ?_
      intro Post_ hPost_
      have HP := Sep.hid hPost_
      clear hPost_
      go_enter Tryd.func13, Tryd.ntmps13
      go_wp2_with fail
      exact HP.out _ _ ⟨rfl, rfl⟩
  | 4, _ => show FormSays _ 4 from
    by
      intro w
      refine Sep.calls_post ?_
      intro Post_ hPost_
      have HP := Sep.hid hPost_
      clear hPost_
      go_enter Tryd.func13, Tryd.ntmps13
      go_wp2_with fail
      exact HP.out _ _ ⟨rfl, rfl⟩
  | 5, _ => show FormSays _ 5 from
    by
      intro w
      refine Sep.calls_post ?_
      intro Post_ hPost_
      have HP := Sep.hid hPost_
      clear hPost_
      go_enter Tryd.func13, Tryd.ntmps13
      go_wp2_with fail
      exact HP.out _ _ ⟨rfl, rfl⟩
  | 6, _ => show FormSays _ 6 from
    by
      intro w
      refine Sep.calls_post ?_
      intro Post_ hPost_
      have HP := Sep.hid hPost_
      clear hPost_
      go_enter Tryd.func13, Tryd.ntmps13
      go_wp2_with fail
      exact HP.out _ _ ⟨rfl, rfl⟩
  | 7, _ => show FormSays _ 7 from
    by
      intro w
      refine Sep.calls_post ?_
      intro Post_ hPost_
      have HP := Sep.hid hPost_
      clear hPost_
      go_enter Tryd.func13, Tryd.ntmps13
      go_wp2_with fail
      exact HP.out _ _ ⟨rfl, rfl⟩
  | 8, _ => show FormSays _ 8 from
    by
      intro w
      refine Sep.calls_post ?_
      intro Post_ hPost_
      have HP := Sep.hid hPost_
      clear hPost_
      go_enter Tryd.func13, Tryd.ntmps13
      go_wp2_with fail
      exact HP.out _ _ ⟨rfl, rfl⟩
  | 9, _ => show FormSays _ 9 from
    by
      intro w
      refine Sep.calls_post ?_
      intro Post_ hPost_
      have HP := Sep.hid hPost_
      clear hPost_
      go_enter Tryd.func13, Tryd.ntmps13
      go_wp2_with fail
      exact HP.out _ _ ⟨rfl, rfl⟩
  | 10, _ => show FormSays _ 10 from
    by
      intro w
      refine Sep.calls_post ?_
      intro Post_ hPost_
      have HP := Sep.hid hPost_
      clear hPost_
      go_enter Tryd.func13, Tryd.ntmps13
      go_wp2_with fail
      exact HP.out _ _ ⟨rfl, rfl⟩
  | 11, _ => show FormSays _ 11 from
    by
      intro w
      refine Sep.calls_post ?_
      intro Post_ hPost_
      have HP := Sep.hid hPost_
      clear hPost_
      go_enter Tryd.func13, Tryd.ntmps13
      go_wp2_with fail
      exact HP.out _ _ ⟨rfl, rfl⟩
  | 12, _ => show FormSays _ 12 from
    by
      intro w
      refine Sep.calls_post ?_
      intro Post_ hPost_
      have HP := Sep.hid hPost_
      clear hPost_
      go_enter Tryd.func13, Tryd.ntmps13
      go_wp2_with fail
      exact HP.out _ _ ⟨rfl, rfl⟩
  | 13, _ => show FormSays _ 13 from
    by
      intro w
      refine Sep.calls_post ?_
      intro Post_ hPost_
      have HP := Sep.hid hPost_
      clear hPost_
      go_enter Tryd.func13, Tryd.ntmps13
      go_wp2_with fail
      exact HP.out _ _ ⟨rfl, rfl⟩
  | 14, _ => show FormSays _ 14 from
    by
      intro w
      refine Sep.calls_post ?_
      intro Post_ hPost_
      have HP := Sep.hid hPost_
      clear hPost_
      go_enter Tryd.func13, Tryd.ntmps13
      go_wp2_with fail
      exact HP.out _ _ ⟨rfl, rfl⟩
  | 15, _ => show FormSays _ 15 from
    by
      intro w
      refine Sep.calls_post ?_
      intro Post_ hPost_
      have HP := Sep.hid hPost_
      clear hPost_
      go_enter Tryd.func13, Tryd.ntmps13
      go_wp2_with fail
      exact HP.out _ _ ⟨rfl, rfl⟩
  | 16, _ => show FormSays _ 16 from
    by
      intro w
      refine Sep.calls_post ?_
      intro Post_ hPost_
      have HP := Sep.hid hPost_
      clear hPost_
      go_enter Tryd.func13, Tryd.ntmps13
      go_wp2_with fail
      exact HP.out _ _ ⟨rfl, rfl⟩
  | 17, _ => show FormSays _ 17 from
    by
      intro w
      refine Sep.calls_post ?_
      intro Post_ hPost_
      have HP := Sep.hid hPost_
      clear hPost_
      go_enter Tryd.func13, Tryd.ntmps13
      go_wp2_with fail
      exact HP.out _ _ ⟨rfl, rfl⟩
  | 18, _ => show FormSays _ 18 from
    by
      intro w
      refine Sep.calls_post ?_
      intro Post_ hPost_
      have HP := Sep.hid hPost_
      clear hPost_
      go_enter Tryd.func13, Tryd.ntmps13
      go_wp2_with fail
      exact HP.out _ _ ⟨rfl, rfl⟩
  | 19, _ => show FormSays _ 19 from
    by
      intro w
      refine Sep.calls_post ?_
      intro Post_ hPost_
      have HP := Sep.hid hPost_
      clear hPost_
      go_enter Tryd.func13, Tryd.ntmps13
      go_wp2_with fail
      exact HP.out _ _ ⟨rfl, rfl⟩
  | 20, _ => show FormSays _ 20 from
    by
      intro w
      refine Sep.calls_post ?_
      intro Post_ hPost_
      have HP := Sep.hid hPost_
      clear hPost_
      go_enter Tryd.func13, Tryd.ntmps13
      go_wp2_with fail
      exact HP.out _ _ ⟨rfl, rfl⟩
  | 21, _ => show FormSays _ 21 from
    by
      intro w
      refine Sep.calls_post ?_
      intro Post_ hPost_
      have HP := Sep.hid hPost_
      clear hPost_
      go_enter Tryd.func13, Tryd.ntmps13
      go_wp2_with fail
      exact HP.out _ _ ⟨rfl, rfl⟩
  | 22, _ => show FormSays _ 22 from
    by
      intro w
      refine Sep.calls_post ?_
      intro Post_ hPost_
      have HP := Sep.hid hPost_
      clear hPost_
      go_enter Tryd.func13, Tryd.ntmps13
      go_wp2_with fail
      exact HP.out _ _ ⟨rfl, rfl⟩
  | 23, _ => show FormSays _ 23 from
    by
      intro w
      refine Sep.calls_post ?_
      intro Post_ hPost_
      have HP := Sep.hid hPost_
      clear hPost_
      go_enter Tryd.func13, Tryd.ntmps13
      go_wp2_with fail
      exact HP.out _ _ ⟨rfl, rfl⟩
  | 24, _ => show FormSays _ 24 from
    by
      intro w
      refine Sep.calls_post ?_
      intro Post_ hPost_
      have HP := Sep.hid hPost_
      clear hPost_
      go_enter Tryd.func13, Tryd.ntmps13
      go_wp2_with fail
      exact HP.out _ _ ⟨rfl, rfl⟩
  | 25, _ => show FormSays _ 25 from
    by
      intro w
      refine Sep.calls_post ?_
      intro Post_ hPost_
      have HP := Sep.hid hPost_
      clear hPost_
      go_enter Tryd.func13, Tryd.ntmps13
      go_wp2_with fail
      exact HP.out _ _ ⟨rfl, rfl⟩
  | 26, _ => show FormSays _ 26 from
    by
      intro w
      refine Sep.calls_post ?_
      intro Post_ hPost_
      have HP := Sep.hid hPost_
      clear hPost_
      go_enter Tryd.func13, Tryd.ntmps13
      go_wp2_with fail
      exact HP.out _ _ ⟨rfl, rfl⟩
  | 27, _ => show FormSays _ 27 from
    by
      intro w
      refine Sep.calls_post ?_
      intro Post_ hPost_
      have HP := Sep.hid hPost_
      clear hPost_
      go_enter Tryd.func13, Tryd.ntmps13
      go_wp2_with fail
      exact HP.out _ _ ⟨rfl, rfl⟩
  | 28, _ => show FormSays _ 28 from
    by
      intro w
      refine Sep.calls_post ?_
      intro Post_ hPost_
      have HP := Sep.hid hPost_
      clear hPost_
      go_enter Tryd.func13, Tryd.ntmps13
      go_wp2_with fail
      exact HP.out _ _ ⟨rfl, rfl⟩
  | 29, _ => show FormSays _ 29 from
    by
      intro w
      refine Sep.calls_post ?_
      intro Post_ hPost_
      have HP := Sep.hid hPost_
      clear hPost_
      go_enter Tryd.func13, Tryd.ntmps13
      go_wp2_with fail
      exact HP.out _ _ ⟨rfl, rfl⟩
  | 30, _ => show FormSays _ 30 from
    by
      intro w
      refine Sep.calls_post ?_
      intro Post_ hPost_
      have HP := Sep.hid hPost_
      clear hPost_
      go_enter Tryd.func13, Tryd.ntmps13
      go_wp2_with fail
      exact HP.out _ _ ⟨rfl, rfl⟩
  | 31, _ => show FormSays _ 31 from
    by
      intro w
      refine Sep.calls_post ?_
      intro Post_ hPost_
      have HP := Sep.hid hPost_
      clear hPost_
      go_enter Tryd.func13, Tryd.ntmps13
      go_wp2_with fail
      exact HP.out _ _ ⟨rfl, rfl⟩
  | 32, _ => show FormSays _ 32 from
    by
      intro w
      refine Sep.calls_post ?_
      intro Post_ hPost_
      have HP := Sep.hid hPost_
      clear hPost_
      go_enter Tryd.func13, Tryd.ntmps13
      go_wp2_with fail
      exact HP.out _ _ ⟨rfl, rfl⟩
  | 33, _ => show FormSays _ 33 from
    by
      intro w
      refine Sep.calls_post ?_
      intro Post_ hPost_
      have HP := Sep.hid hPost_
      clear hPost_
      go_enter Tryd.func13, Tryd.ntmps13
      go_wp2_with fail
      exact HP.out _ _ ⟨rfl, rfl⟩
  | 34, _ => show FormSays _ 34 from
    by
      intro w
      refine Sep.calls_post ?_
      intro Post_ hPost_
      have HP := Sep.hid hPost_
      clear hPost_
      go_enter Tryd.func13, Tryd.ntmps13
      go_wp2_with fail
      exact HP.out _ _ ⟨rfl, rfl⟩
  | 35, _ => show FormSays _ 35 from
    by
      intro w
      refine Sep.calls_post ?_
      intro Post_ hPost_
      have HP := Sep.hid hPost_
      clear hPost_
      go_enter Tryd.func13, Tryd.ntmps13
      go_wp2_with fail
      exact HP.out _ _ ⟨rfl, rfl⟩
  | 36, _ => show FormSays _ 36 from
    by
      intro w
      refine Sep.calls_post ?_
      intro Post_ hPost_
      have HP := Sep.hid hPost_
      clear hPost_
      go_enter Tryd.func13, Tryd.ntmps13
      go_wp2_with fail
      exact HP.out _ _ ⟨rfl, rfl⟩
  | 37, _ => show FormSays _ 37 from
    by
      intro w
      refine Sep.calls_post ?_
      intro Post_ hPost_
      have HP := Sep.hid hPost_
      clear hPost_
      go_enter Tryd.func13, Tryd.ntmps13
      go_wp2_with fail
      exact HP.out _ _ ⟨rfl, rfl⟩
  | 38, _ => show FormSays _ 38 from
    by
      intro w
      refine Sep.calls_post ?_
      intro Post_ hPost_
      have HP := Sep.hid hPost_
      clear hPost_
      go_enter Tryd.func13, Tryd.ntmps13
      go_wp2_with fail
      exact HP.out _ _ ⟨rfl, rfl⟩
  | 39, _ => show FormSays _ 39 from
    by
      intro w
      refine Sep.calls_post ?_
      intro Post_ hPost_
      have HP := Sep.hid hPost_
      clear hPost_
      go_enter Tryd.func13, Tryd.ntmps13
      go_wp2_with fail
      exact HP.out _ _ ⟨rfl, rfl⟩
  | 40, _ => show FormSays _ 40 from
    by
      intro w
      refine Sep.calls_post ?_
      intro Post_ hPost_
      have HP := Sep.hid hPost_
      clear hPost_
      go_enter Tryd.func13, Tryd.ntmps13
      go_wp2_with fail
      exact HP.out _ _ ⟨rfl, rfl⟩
  | 41, _ => show FormSays _ 41 from
    by
      intro w
      refine Sep.calls_post ?_
      intro Post_ hPost_
      have HP := Sep.hid hPost_
      clear hPost_
      go_enter Tryd.func13, Tryd.ntmps13
      go_wp2_with fail
      exact HP.out _ _ ⟨rfl, rfl⟩
  | 42, _ => show FormSays _ 42 from
    by
      intro w
      refine Sep.calls_post ?_
      intro Post_ hPost_
      have HP := Sep.hid hPost_
      clear hPost_
      go_enter Tryd.func13, Tryd.ntmps13
      go_wp2_with fail
      exact HP.out _ _ ⟨rfl, rfl⟩
  | 43, _ => show FormSays _ 43 from
    by
      intro w
      refine Sep.calls_post ?_
      intro Post_ hPost_
      have HP := Sep.hid hPost_
      clear hPost_
      go_enter Tryd.func13, Tryd.ntmps13
      go_wp2_with fail
      exact HP.out _ _ ⟨rfl, rfl⟩
  | 44, _ => show FormSays _ 44 from
    by
      intro w
      refine Sep.calls_post ?_
      intro Post_ hPost_
      have HP := Sep.hid hPost_
      clear hPost_
      go_enter Tryd.func13, Tryd.ntmps13
      go_wp2_with fail
      exact HP.out _ _ ⟨rfl, rfl⟩
  | 45, _ => show FormSays _ 45 from
    by
      intro w
      refine Sep.calls_post ?_
      intro Post_ hPost_
      have HP := Sep.hid hPost_
      clear hPost_
      go_enter Tryd.func13, Tryd.ntmps13
      go_wp2_with fail
      exact HP.out _ _ ⟨rfl, rfl⟩
  | 46, _ => show FormSays _ 46 from
    by
      intro w
      refine Sep.calls_post ?_
      intro Post_ hPost_
      have HP := Sep.hid hPost_
      clear hPost_
      go_enter Tryd.func13, Tryd.ntmps13
      go_wp2_with fail
      exact HP.out _ _ ⟨rfl, rfl⟩
  | q + 47, h => absurd h (by omega)
set_option maxRecDepth 20000 in
set_option maxHeartbeats 40000000 in
theorem rForm (op : Int) : FormSays 13 op := by
  rcases form_cases op with ⟨hf, h⟩ | hx
  · intro w
    rw [hf]
    clear hf
    have H := Sep.hid h
    clear h
    refine Sep.calls_post ?_
    intro Post_ hPost_
    have HP := Sep.hid hPost_
    clear hPost_
    go_enter Tryd.func13, Tryd.ntmps13
    go_wp2_with fail
    all_goals first
      | exact HP.out _ _ ⟨rfl, rfl⟩
      | (rename_i h; rw [beq_iff_eq] at h; exact absurd H.out (by omega))
  · have h0 := form_range hx
    have h1 := rForm_at op.toNat h0.2
    rwa [show ((op.toNat : Nat) : Int) = op by omega] at h1
end Go.Proofs.YtmokklkckecmdaaDoor
