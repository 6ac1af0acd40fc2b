/-
  How often a number is in a list; a tree that was made by acts.
-/
import Derived.Test.YtlegkikglpogkaaTreeAw
namespace Go.Proofs.Ytlegkikglpogkaa
set_option linter.unusedSimpArgs false
set_option linter.unusedVariables false
open Go.RowKit Go.Sep Go.TreeM

theorem count_take {xs : List Int} {q : Nat} {y : Int} (x : Int) (h : xs[q]? = some y) : (xs.take (q + 1)).count x = (xs.take q).count x + (if y = x then 1 else 0) := by
  rw [List.take_add_one, h, List.count_append]
  congr 1
  by_cases hy : y = x
  · subst hy; simp
  · simp [hy]
set_option maxHeartbeats 1600000 in
theorem in_calls (v : Value) (xs : List Int) (x : Int) (hL : xs.length ≤ 1000000) (e w : World) (X : HProp) (hw : Holds e w [X, IsInts v xs]) :
    Calls Try.prog 26 #[v, .int .i64 x] w fun en w' => en = .returned (.int .i64 (xs.count x : Nat)) ∧ Holds e w' [X, IsInts v xs] := by
  have hw : Holds e w [X, Sl 3 1 v xs.length (encI xs)] := hw
  obtain ⟨a, ca, rfl⟩ := Sl.value (i := 1) rfl hw
  obtain ⟨n, hn⟩ : ∃ n, xs.length = n := ⟨_, rfl⟩
  have Hn := Sep.hid hn
  rw [hn] at hw hL ⊢
  clear hn
  refine Sep.calls_post ?_
  intro Post_ hPost_
  have HP := Sep.hid hPost_
  clear hPost_
  go_enter Try.func26, Try.ntmps26
  go_wp2_with fail
  have Hw0 := Sep.hid hw; clear hw
  go_loopw [5, 10] (fun m i wr => ∃ q : Nat, q ≤ n ∧ i = .int .i64 q ∧ m = .int .i64 ((xs.take q).count x : Nat) ∧ Holds e wr [X, Sl 3 1 (.slice a n ca) n (encI xs)]) (fun _ i _ => n - (intOf i).toNat)
  case atStart => exact ⟨0, Nat.zero_le _, rfl, rfl, Hw0.out⟩
  case round =>
    clear Hw0
    obtain ⟨q, hq, rfl, rfl, hw⟩ := hrel
    have hcl : (xs.take q).count x ≤ 1000000 := Nat.le_trans List.count_le_length (by rw [List.length_take, Hn.out]; omega)
    obtain ⟨m, hm⟩ : ∃ m, (xs.take q).count x = m := ⟨_, rfl⟩
    have Hm := Sep.hid hm
    rw [hm] at hcl ⊢
    clear hm
    by_cases hlt : q < n
    · obtain ⟨y, hy⟩ : ∃ y, xs[q]? = some y := ⟨_, List.getElem?_eq_getElem (by rw [Hn.out]; exact hlt)⟩
      have Hsu := Sep.hid (count_take x hy)
      obtain ⟨b, off, rfl, g⟩ := num_at (i := 1) hw rfl hy
      clear hy
      by_cases hyx : y = x
      · have E1 : Hid ((xs.take (q + 1)).count x = m + 1) := Sep.hid (by rw [Hsu.out, Hm.out, if_pos hyx])
        have hb : (y == x) = true := by simpa using hyx
        clear hyx
        go_wp2_with fail
        go_roundw
        case rel => exact ⟨q + 1, by omega, by go_num, by rw [E1.out]; go_num, hw⟩
        case measure => simp [intOf]; omega
      · have E1 : Hid ((xs.take (q + 1)).count x = m) := Sep.hid (by rw [Hsu.out, Hm.out, if_neg hyx]; rfl)
        have hb : (y == x) = false := by simpa using hyx
        clear hyx
        go_wp2_with fail
        go_roundw
        case rel => exact ⟨q + 1, by omega, by go_num, by rw [E1.out], hw⟩
        case measure => simp [intOf]; omega
    · have E1 : Hid (xs.count x = m) := Sep.hid (by rw [← Hm.out, List.take_of_length_le (by rw [Hn.out]; omega)])
      go_wp2_with fail
      refine HP.out _ _ ⟨by rw [E1.out]; rfl, ?_⟩
      rw [← Hn.out] at hw
      have e2 : Sl 3 1 (.slice a xs.length ca) xs.length (encI xs) = IsInts (.slice a n ca) xs := by unfold IsInts; rw [Hn.out]
      rw [← e2]
      exact hw
end Go.Proofs.Ytlegkikglpogkaa
