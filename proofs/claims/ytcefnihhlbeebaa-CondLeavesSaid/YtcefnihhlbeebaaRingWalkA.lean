/-
  The walks of an arena's small methods: who reads it alone.
-/
import Derived.Test.YtcefnihhlbeebaaRingOps
import Derived.Test.YtcefnihhlbeebaaRegionS
import Derived.IntWalk
namespace Go.Proofs.Ytcefnihhlbeebaa
set_option linter.unusedSimpArgs false
set_option linter.unusedVariables false
open Go.RowKit Go.Sep Go.RingM

set_option maxHeartbeats 400000 in
theorem rRow_calls (p : Nat) (R : Ring) (x : RingAt) (r : Int) (w : World) (hc : ∀ k, w.cell? ⟨p, k, none⟩ = (ringCells R x)[k]?) :
    Calls Try.prog 25 #[.pointer (some ⟨p, 0, none⟩), .int .i64 r] w fun en w' => en = .returned (.bool (R.isRow r)) ∧ w' = w := by
  simp only [ringCells] at hc
  by_cases h0 : 0 ≤ r
  · have e : R.isRow r = decide (r < R.rows.length) := by simp [Ring.isRow, h0]
    rw [e]
    refine Sep.calls_post ?_
    intro Post_ hPost_
    have HP := Sep.hid hPost_
    clear hPost_
    go_enter Try.func25, Try.ntmps25
    go_wp2
    exact HP.out _ _ ⟨rfl, rfl⟩
  · have e : R.isRow r = false := by simp [Ring.isRow]; omega
    rw [e]
    refine Sep.calls_post ?_
    intro Post_ hPost_
    have HP := Sep.hid hPost_
    clear hPost_
    go_enter Try.func25, Try.ntmps25
    go_wp2
    exact HP.out _ _ ⟨rfl, rfl⟩
set_option maxHeartbeats 400000 in
theorem rNode_calls (p : Nat) (R : Ring) (x : RingAt) (r : Int) (w : World) (hc : ∀ k, w.cell? ⟨p, k, none⟩ = (ringCells R x)[k]?) :
    Calls Try.prog 34 #[.pointer (some ⟨p, 0, none⟩), .int .i64 r] w fun en w' => en = .returned (.bool (R.isNode r)) ∧ w' = w := by
  simp only [ringCells] at hc
  by_cases h0 : 0 ≤ r
  · have e : R.isNode r = decide (r < R.n) := by simp [Ring.isNode, h0]
    rw [e]
    refine Sep.calls_post ?_
    intro Post_ hPost_
    have HP := Sep.hid hPost_
    clear hPost_
    go_enter Try.func34, Try.ntmps34
    go_wp2
    exact HP.out _ _ ⟨rfl, rfl⟩
  · have e : R.isNode r = false := by simp [Ring.isNode]; omega
    rw [e]
    refine Sep.calls_post ?_
    intro Post_ hPost_
    have HP := Sep.hid hPost_
    clear hPost_
    go_enter Try.func34, Try.ntmps34
    go_wp2
    exact HP.out _ _ ⟨rfl, rfl⟩
set_option maxHeartbeats 400000 in
theorem rHead_calls (p : Nat) (R : Ring) (x : RingAt) (r : Nat) (hn : R.n ≤ 1000) (hr : r ≤ 1000) (w : World) (hc : ∀ k, w.cell? ⟨p, k, none⟩ = (ringCells R x)[k]?) :
    Calls Try.prog 26 #[.pointer (some ⟨p, 0, none⟩), .int .i64 (r : Int)] w fun en w' => en = .returned (.int .i64 ((R.n + r : Nat) : Int)) ∧ w' = w := by
  simp only [ringCells] at hc
  have hwr : IntKind.i64.wrap ((R.n : Int) + (r : Int)) = ((R.n + r : Nat) : Int) := by rw [IntWalk.i64_in _ (by omega)]; omega
  refine Sep.calls_post ?_
  intro Post_ hPost_
  have HP := Sep.hid hPost_
  clear hPost_
  go_enter Try.func26, Try.ntmps26
  go_wp2
  exact HP.out _ _ ⟨rfl, rfl⟩
set_option maxHeartbeats 400000 in
theorem rIn_calls (p : Nat) (R : Ring) (n : Int) (e w : World) (X : HProp) (hw : Holds e w [X, IsRing p R]) :
    Calls Try.prog 29 #[.pointer (some ⟨p, 0, none⟩), .int .i64 n] w fun en w' => en = .returned (.int .i64 (R.in_ n)) ∧ w' = w := by
  obtain ⟨x, nx, pv, hok, hw⟩ := IsRing.open_ hw
  have Hok := Sep.hid hok; clear hok
  have hc := hw.cells (i := 1) rfl
  have Hc := Sep.hid hc; clear hc
  cases hn : R.isNode n with
  | false =>
    have e1 : R.in_ n = -1 := by simp [Ring.in_, hn]
    rw [e1]
    refine Sep.calls_post ?_
    intro Post_ hPost_
    have HP := Sep.hid hPost_
    clear hPost_
    go_enter Try.func29, Try.ntmps29
    go_wp2_with (go_at_call 34; refine (rNode_calls p R x n w Hc.out).mono ?_; rintro _ w_ ⟨rfl, rfl⟩; rw [hn])
    exact HP.out _ _ ⟨rfl, rfl⟩
  | true =>
    have h' := hn
    simp only [Ring.isNode, Bool.and_eq_true, decide_eq_true_eq] at h'
    obtain ⟨m, rfl⟩ := Int.eq_ofNat_of_zero_le h'.1
    have hm : m < R.n := by omega
    have e1 : R.in_ m = R.inOf m := by unfold Ring.in_; rw [hn]; simp
    rw [e1]
    have hg := inns_get hm
    simp only [ringCells] at hw
    (try replace hc0 := Sep.Holds.cells hw (i := 0) rfl); (try replace hc1 := Sep.Holds.cells hw (i := 1) rfl); (try replace hc2 := Sep.Holds.cells hw (i := 2) rfl); (try replace hc3 := Sep.Holds.cells hw (i := 3) rfl); (try replace hc4 := Sep.Holds.cells hw (i := 4) rfl); (try replace hc5 := Sep.Holds.cells hw (i := 5) rfl); (try replace hc6 := Sep.Holds.cells hw (i := 6) rfl)
    clear h'
    refine Sep.calls_post ?_
    intro Post_ hPost_
    have HP := Sep.hid hPost_
    clear hPost_
    go_enter Try.func29, Try.ntmps29
    go_wp2_with (go_at_call 34; refine (rNode_calls p R x m w Hc.out).mono ?_; rintro _ w_ ⟨rfl, rfl⟩; rw [hn])
    exact HP.out _ _ ⟨rfl, rfl⟩
end Go.Proofs.Ytcefnihhlbeebaa
